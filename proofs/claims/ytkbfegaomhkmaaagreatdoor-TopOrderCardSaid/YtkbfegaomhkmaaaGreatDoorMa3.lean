/- A part of the proof (merged texts; each one's first line says what it holds). -/
import Derived.Lib.Builder
import Derived.Lib.UnsafeStr
import Derived.Lib.MakeNoZero
import Derived.Lib.Bytealg
import Derived.Laws.BytesArg
import Derived.Laws.Externs
import Derived.Laws.MakeOwn
import Derived.Test.YtkbfegaomhkmaaaGreatDoorProg
import Derived.Test.YtkbfegaomhkmaaaGreatDoorMa2
set_option linter.all false
section
/- Conversions between texts and bytes, places without their type, texts of bytes in place; functions without bodies. -/
set_option linter.all false
namespace Go.Ev
open Go Go.RowKit Go.Hub
variable {P : Program} {N : Nat} {pl : List Value} {dst : Option Nat} {ty : TypeId} {ps : String} {af : Array Edge} {gd : Option (Nat × Bool)} {x y z : Operand} {t u : TypeId}
variable {φ : Nat → Tr → Nat → Prop} {pb : Kb} {pn : Nat → Option Obj} {G G' : Gh} {h h' : Tr} {nx nm : Nat} {w w' : World}

/-- cells that hold bytes are a text -/
theorem Cel.bytes {m d : Nat} {l : List Value} (hl : Cel G m d l) (hb : allB m d = true) : ∃ bs : List UInt8, l = bs.map (fun b => Value.int .u8 b.toNat) ∧ bs.length = m ∧ d = rowB bs := by
  have hk : ∀ i, i < m → ∃ b : UInt8, l.getD i undef = .int .u8 b.toNat ∧ getS d i = cI .u8 b.toNat := fun i hi => by
    obtain ⟨n, p, hv, hc, e1, l1⟩ := (hl.rel i hi).1.num (isN_ok (allB_ok hb i hi))
    have hn : n = (p : Int) := by simp only [bias] at e1; omega
    have hp : p < 256 := l1
    refine ⟨UInt8.ofNat p, ?_, ?_⟩
    · rw [hv, hn]
      simp only [UInt8.toNat_ofNat']
      congr 2
      omega
    · rw [hc, cI8]
      simp only [UInt8.toNat_ofNat']
      show 130 + 256 * p = _
      congr 2
      omega
  have hex : ∀ (l : List Value) , (∀ i, i < l.length → ∃ b : UInt8, l.getD i undef = .int .u8 b.toNat) → ∃ bs : List UInt8, l = bs.map (fun b => Value.int .u8 b.toNat) := by
    intro l
    induction l with
    | nil => intro _; exact ⟨[], rfl⟩
    | cons v l ih =>
      intro h
      obtain ⟨b, hb⟩ := h 0 (by simp)
      obtain ⟨bs, hbs⟩ := ih fun i hi => by
        obtain ⟨b, hb⟩ := h (i + 1) (by simp only [List.length_cons]; omega)
        exact ⟨b, by simpa using hb⟩
      refine ⟨b :: bs, ?_⟩
      have : v = .int .u8 b.toNat := by simpa using hb
      rw [this, hbs]
      rfl
  obtain ⟨bs, rfl⟩ := hex l fun i hi => by
    obtain ⟨b, h1, _⟩ := hk i (by rw [← hl.len]; exact hi)
    exact ⟨b, h1⟩
  have hlen : bs.length = m := by rw [← hl.len]; simp
  refine ⟨bs, rfl, hlen, ?_⟩
  refine row_ext (n := m) hl.lt (by rw [← hlen]; exact rowB_lt bs) fun i hi => ?_
  obtain ⟨b, h1, h2⟩ := hk i hi
  rw [h2, getS_rowB, List.getElem?_eq_getElem (by omega)]
  have h3 : bs[i]? = some bs[i] := List.getElem?_eq_getElem (by omega)
  have h4 : ((bs.map (fun b => Value.int .u8 b.toNat)).getD i undef) = .int .u8 bs[i].toNat := by
    rw [List.getD_eq_getElem?_getD, List.getElem?_map, h3]; rfl
  rw [h4] at h1
  injection h1 with _ h1
  have : bs[i].toNat = b.toNat := by exact_mod_cast h1
  rw [← this]
  rfl
theorem rowB_str (l : List UInt8) : (⟨l.toArray⟩ : ByteArray).data.toList = l := rfl
/-! ### bytes into a text -/
noncomputable def txtV (n r : Nat) : Res := Bool.rec (rif (allB n r) (.imm 3 (.txt n r))) (.val 16) (Nat.beq n 0)
noncomputable def b2tV (x : Nat → Nat) : V := fun e h => Bool.rec (rif (isT 7 (x e)) (rdR Res.no (h.get (slN (x e))) fun n r => rif (Nat.ble (Nat.add (slO (x e)) (slL (x e))) n) (rif (allB (slL (x e)) (sub r (slO (x e)) (slL (x e)))) (.imm 3 (.txt (slL (x e)) (sub r (slO (x e)) (slL (x e)))))))) (.val 16) (z0 (x e))
theorem b2t_ok {e8 : TypeId} (ht : P.underlying t = some (.slice e8)) (he : P.underlying e8 = some (.int .u8)) (hu : P.underlying u = some .string) : VS P N pl ⟨dst, .convert t u x, ty, ps, af, gd⟩ (b2tV (cO pl x)) := by
  intro pb pn G h nx w e a R EE
  have rx := EE.val x (by simp [Op.operands])
  show ROk P G w _ (Bool.rec _ _ (z0 (cO pl x e)))
  cases h0 : z0 (cO pl x e) with
  | true =>
    unfold z0 at h0
    cases hs : isSl (cO pl x e)
    · rw [hs] at h0; cases h0
    · rw [hs] at h0
      obtain ⟨A, cap, hx, _⟩ := isSl_ok hs rx
      have h0 : slL (cO pl x e) = 0 := Nat.eq_of_beq_eq_true h0
      rw [h0] at hx
      refine ⟨.string ⟨#[]⟩, ?_, .str0⟩
      have hr := run_convert_bytes_string (P := P) w t u e8 A 0 cap ht he hu
      cases A with
      | none =>
        simp [execOp, hx, hr, Conv.bytesToString]
        rfl
      | some A =>
        have hz := run_bytesToString (P := P) w A 0 cap [] rfl
        simp [execOp, hx, hr, hz]
        rfl
  | false =>
    refine ROk.rif fun h7 => ?_
    obtain ⟨nm, off, len, cc, cap, b, s, tot, z, hx, hc, hG, hnm, ho, hlb, hcb, q1, q2⟩ := rx.inv_sl (isT_ok h7)
    obtain ⟨e1, e2, e3, e4⟩ := sl_parts (cc := cc) hnm ho hlb
    rw [hc]
    simp only [e1, e2, e3]
    refine ROk.rdR R hG fun n r cs el fr RA hsz htot => ROk.rif fun hle => ROk.rif fun hb => ?_
    have hle : off + len ≤ n := Nat.le_of_ble_eq_true hle
    obtain ⟨l, hl1, hl2⟩ := RA.cel hle
    obtain ⟨bs, rfl, hlen, hd⟩ := hl1.bytes hb
    have hload : (loadCells ⟨b, s + off, none⟩ len).run P w = .ok ((bs.map fun b => (b.toNat : Int)).map (Value.int .u8)).toArray w := by
      have := run_loadCells_list (P := P) w ⟨b, s + off, none⟩ (bs.map fun b => Value.int .u8 b.toNat) (fun j v hj => by rw [Addr.add_mid]; exact hl2 j v hj)
      rw [List.length_map, hlen] at this
      rw [this]
      simp [List.map_map, Function.comp_def]
    have hz := run_bytesToString (P := P) w ⟨b, s + off, none⟩ len cap _ hload
    have hfold : (bs.map fun b => (b.toNat : Int)).foldl (fun r n => r.push (UInt8.ofNat n.toNat)) ByteArray.empty = ⟨bs.toArray⟩ := by
      rw [foldl_push_bytes]
      simp only [List.map_map]
      have : (fun n : Int => UInt8.ofNat n.toNat) ∘ (fun b : UInt8 => (b.toNat : Int)) = id := by
        funext b
        simp
      rw [this, List.map_id]
      show (⟨(#[] : Array UInt8) ++ bs.toArray⟩ : ByteArray) = _
      simp
    rw [hfold] at hz
    have hr := run_convert_bytes_string (P := P) w t u e8 (some ⟨b, s + off, none⟩) len cap ht he hu
    refine ⟨.string ⟨bs.toArray⟩, by simp [execOp, hx, hr, hz], rfl, fun G' nm' hg hG' hn' => ⟨.str nm' _ hG' hn', fun w' => ⟨⟨bs.toArray⟩, hG', hlen, ?_⟩⟩⟩
    rw [hd]
theorem freeze_heap {b o n : Nat} {cs : Array Value} {el : Nat} {lo hi : Nat} (hb : w.heap[b]? = some (.cells cs el (lo, hi))) (hn : n ≠ 0) :
    (w.freeze { block := b, off := o } n).heap[b]? = some (.cells cs el (if lo == hi then (o, o + n) else (min lo o, max hi (o + n)))) ∧ (∀ x, x ≠ b → (w.freeze { block := b, off := o } n).heap[x]? = w.heap[x]?) ∧ (w.freeze { block := b, off := o } n).heap.size = w.heap.size := by
  unfold World.freeze
  rw [if_neg hn]
  refine ⟨?_, fun x hx => ?_, by simp⟩
  · show (w.heap.modify b _)[b]? = _
    rw [Array.getElem?_modify, if_pos rfl, hb]
    rfl
  · show (w.heap.modify b _)[x]? = _
    rw [Array.getElem?_modify, if_neg (Ne.symm hx)]
/-! ### a text into bytes -/
noncomputable def t2bV (el : Nat) (x : Nat → Nat) : V := fun e h => txtR Res.no h (x e) fun n r => rif (Nat.blt n 1048576) (.blk (cL 0 0 n 0) (.row false 0 el n r))
theorem t2b_ok {e8 : TypeId} (ht : P.underlying t = some .string) (he : P.underlying e8 = some (.int .u8)) (hu : P.underlying u = some (.slice e8)) (hs : szOf P e8 = some 1) : VS P N pl ⟨dst, .convert t u x, ty, ps, af, gd⟩ (t2bV e8 (cO pl x)) := by
    intro pb pn G h nx w e a R EE
    have rx := EE.val x (by simp [Op.operands])
    refine ROk.txt R rx fun bs hv => ROk.rif fun hlt => ?_
    have hlt : bs.size < 1048576 := blt_ok hlt
    let cap := grownCap w bs.size 0 e8
    let cs : Array Value := (bs.data.map fun b => Value.int .u8 b.toNat) ++ Array.replicate (cap - bs.size) (.int .u8 0)
    have hge : bs.size ≤ cap := grownCap_ge _ _ _ _
    have hsz : cs.size = cap := by
      show ((bs.data.map fun b => Value.int .u8 b.toNat) ++ Array.replicate (cap - bs.size) (Value.int .u8 0)).size = cap
      rw [Array.size_append, Array.size_map, Array.size_replicate]
      show bs.size + (cap - bs.size) = cap
      omega
    have hheap : (w.heap.push (.cells cs e8 (0, 0)))[w.heap.size]? = some (.cells cs e8 (0, 0)) := by simp
    have hshape : (w.drew.alloc (.cells cs e8)).shape? w.heap.size = some (e8, cap) := by
      unfold World.shape?
      show (match (w.heap.push (.cells cs e8 (0, 0)))[w.heap.size]? with | some (.cells c elem _) => some (elem, c.size) | _ => none) = _
      rw [hheap]
      simp [hsz]
    let w2 : World := (w.drew.alloc (.cells cs e8)).freeze { block := w.heap.size, off := cap } 1
    obtain ⟨f1, f2, f3⟩ := freeze_heap (w := w.drew.alloc (.cells cs e8)) (b := w.heap.size) (o := cap) (n := 1) (cs := cs) (el := e8) (lo := 0) (hi := 0) hheap (by omega)
    have hlk : Lk w w2 := by
      show Lk w ((w.drew.alloc (.cells cs e8)).freeze { block := w.heap.size, off := cap } 1)
      exact ⟨by unfold World.freeze; split <;> rfl, by unfold World.freeze; split <;> rfl⟩
    have hw2 : w2.heap = w.heap.push (.cells cs e8 (cap, cap + 1)) := by
      apply Array.ext_getElem?
      intro i
      rw [Array.getElem?_push]
      by_cases hq : i = w.heap.size
      · subst hq
        rw [if_pos rfl]
        exact f1
      · rw [if_neg hq]
        refine (f2 i hq).trans ?_
        show (w.heap.push (.cells cs e8 (0, 0)))[i]? = _
        rw [Array.getElem?_push, if_neg hq]
    have hrun : (convert t u (.string bs)).run P w = .ok (.slice (some ⟨w.heap.size, 0, none⟩) bs.size cap) w2 := by
      have hna : Sem.run P (newRow e8 cs) w.drew = .ok ⟨w.heap.size, 0, none⟩ (w.drew.alloc (.cells cs e8)) := by simp [newRow]
      have hmk : Sem.run P (markStringish ⟨w.heap.size, 0, none⟩) (w.drew.alloc (.cells cs e8)) = .ok () w2 := by
        simp [markStringish, shape, freeze, Sem.run, hshape]
        rfl
      simp only [convert, Sem.run_bind, run_underlying ht, run_underlying hu, run_underlying he, Result.andThen_ok, Conv.stringToBytes]
      have hch : Sem.run P (choose (.appendCap bs.size 0 e8)) w = .ok cap w.drew := by simp [choose, Sem.run, Question.forced, cap, grownCap]
      simp only [hch, Result.andThen_ok]
      rw [hna]
      simp only [Result.andThen_ok]
      rw [hmk]
      rfl
    have hcel := Cel.text (G := G) bs
    refine ⟨.slice (some ⟨w.heap.size, 0, none⟩) bs.size cap, .cells cs e8 (cap, cap + 1), w2, 0, cap, 1, by simp [execOp, hv, hrun], ⟨hw2, hlk⟩, rfl, fun G' nm w' hg hG hnm hw' => ⟨?_, w.heap.size, 0, cap, 1, cs, cap, cap + 1, hG, hw', hsz, by omega, (fun h => by cases h), .inr (Nat.le_refl _), hs, fun i hi => ?_⟩⟩
    · have e1 : cL 0 0 bs.size 0 + 32 * nm = cL nm 0 bs.size 0 := by unfold cL; omega
      rw [e1]
      exact .sl nm 0 bs.size 0 cap w.heap.size 0 cap 1 hG hnm (by omega) hlt (by omega) (by rw [if_pos rfl]; omega) hge
    · have := hcel.rel i hi
      have e1 : cs.getD (0 + i) undef = (strC bs).getD i undef := by
        rw [Nat.zero_add, Array.getD_eq_getD_getElem?, List.getD_eq_getElem?_getD]
        have : i < (bs.data.map fun b => Value.int .u8 b.toNat).size := by rw [Array.size_map]; exact hi
        show (((bs.data.map fun b => Value.int .u8 b.toNat) ++ Array.replicate (cap - bs.size) (Value.int .u8 0))[i]?).getD undef = _
        rw [Array.getElem?_append_left this]
        unfold strC
        rw [Array.getElem?_map, List.getElem?_map, Array.getElem?_toList]
      rw [e1]
      exact ⟨this.1.mono hg, this.2⟩
/-! ### a slice to its own type: its block is marked -/
noncomputable def s2sX (x : Nat → Nat) : CV := fun _ e h nx kv => chk (isT 7 (x e)) (wrR T.fail (h.get (slN (x e))) fun cl fz el n r => kv (x e) (h.set (slN (x e)) (.row cl fz el n r)) nx)
theorem s2s_ok {e8 : TypeId} (ht : P.underlying t = some (.slice e8)) (he : P.underlying e8 = some (.int .u8)) : XS P N pl ⟨dst, .convert t t x, ty, ps, af, gd⟩ (s2sX (cO pl x)) := by
  refine xs_run fun cl φ pb pn G h nx w e a kv R EE H => ?_
  have rx := EE.val x (by simp [Op.operands])
  obtain ⟨h7, H⟩ := Tall.chk H
  obtain ⟨nm, off, len, cc, cap, b, s, tot, z, hx, hc, hG, hnm, ho, hlb, hcb, q1, q2⟩ := rx.inv_sl (isT_ok h7)
  obtain ⟨e1, e2, e3, e4⟩ := sl_parts (cc := cc) hnm ho hlb
  have rx' := rx
  rw [hc] at H rx'
  simp only [e1] at H
  obtain ⟨cl', fz, el, n, r, hob, H⟩ := Tall.wrR H
  have hO := R.obj nm (by rw [hG]; simp)
  rw [hob] at hO
  obtain ⟨b', s', tot', sz', cs, lo, hi, g1, g2, g3, g4, g5, g6, g7, g8⟩ := hO
  rw [hG] at g1
  injection g1 with g1
  injection g1 with p1 p2 p3 p4
  subst p1 p2 p3 p4
  obtain ⟨f1, f2, f3⟩ := freeze_heap (w := w) (o := cs.size) (n := 1) g2 (by omega)
  have hshape : w.shape? b = some (el, cs.size) := by unfold World.shape?; rw [g2]
  have hmk : Sem.run P (markStringish ⟨b, s + off, none⟩) w = .ok () (w.freeze { block := b, off := cs.size } 1) := by
    simp [markStringish, shape, freeze, Sem.run, hshape]
  refine ⟨_, w.freeze { block := b, off := cs.size } 1, G, _, nx, _, ?_, Gle.rfl, R.upd (o := .row cl' fz el n r) hG (by rw [hob]; rfl) rfl f2 f3 ?_, rx', H⟩
  · simp [execOp, hx, convert, run_underlying ht, run_underlying he, hmk]
  · by_cases hlh : lo = hi
    · subst hlh
      rw [if_pos (by simp)] at f1
      exact ⟨b, s, tot, z, cs, _, _, hG, f1, g3, g4, g5, .inr (by omega), g7, g8⟩
    · rw [if_neg (by simpa using hlh)] at f1
      exact ⟨b, s, tot, z, cs, _, _, hG, f1, g3, g4, g5, .inr (by omega), g7, g8⟩
/-! ### places without their type -/
noncomputable def p2uV (x : Nat → Nat) : V := fun e h => Bool.rec (rif (isT 5 (x e)) (rdR Res.no (h.get (adN (x e))) fun n _ => rif (Nat.blt (adO (x e)) n) (.val (x e)))) (.val 4) (Nat.beq (x e) 4)
theorem p2u_ok {tt : TypeId} {sz : Nat} (ht : P.underlying t = some (.pointer tt)) (hu : P.underlying u = some .unsafePointer) (hs : szOf P tt = some (sz + 1)) : VS P N pl ⟨dst, .convert t u x, ty, ps, af, gd⟩ (p2uV (cO pl x)) := by
  intro pb pn G h nx w e a R EE
  have rx := EE.val x (by simp [Op.operands])
  show ROk P G w _ (Bool.rec _ _ (Nat.beq (cO pl x e) 4))
  cases h4 : Nat.beq (cO pl x e) 4 with
  | true =>
    have h4 := Nat.eq_of_beq_eq_true h4
    rw [h4] at rx
    obtain ⟨hx, _⟩ := rx.inv_nilp rfl
    exact ⟨.pointer none, by simp [execOp, hx, convert, run_underlying ht, run_underlying hu, Conv.unsafePointer], .nilp⟩
  | false =>
    refine ROk.rif fun h5 => ?_
    obtain ⟨nm, off, b, s, tot, z, hx, hc, hG, hn, ho⟩ := rx.inv_ptr (isT_ok h5)
    have rx' := rx
    rw [hx] at rx'
    rw [hc, adN_P hn, adO_P hn]
    refine ROk.rdR R hG fun n r cs el fr RA hsz htot => ROk.rif fun hlt => ?_
    have hlt := blt_ok hlt
    have hbd := RA.bd
    obtain ⟨j, hj, hjs⟩ : ∃ j, P.info? tt = some j ∧ j.size = sz + 1 := by
      unfold szOf at hs
      cases hi : P.info? tt with
      | none => rw [hi] at hs; cases hs
      | some j => rw [hi] at hs; exact ⟨j, rfl, Option.some.inj hs⟩
    have hsh : w.shape? b = some (el, cs.size) := by unfold World.shape?; rw [RA.blk]
    have hr := Lib.run_to_unsafe (P := P) w (src := t) (dst := u) ⟨b, s + off, none⟩ ht hu hj (by omega) hsh (by show s + off < cs.size; omega)
    rw [hc] at rx'
    exact ⟨.pointer (some ⟨b, s + off, none⟩), by simp [execOp, hx, hr], rx'⟩
noncomputable def u2pV (P : Program) (tt : Nat) (x : Nat → Nat) : V := fun e h => rif (isT 5 (x e)) (wrR Res.no (h.get (adN (x e))) fun cl _ el' n _ => rif cl (rif (liesAt P P.depth el' (Nat.div n (P.cellsOf el')) (adO (x e)) tt 1) (.val (x e))))
theorem lies_self {e : TypeId} {k count off n : Nat} (hc : P.cellsOf e = k) (hk : 0 < k) (ho : off % k = 0) (hn : off / k + n ≤ count) : liesAt P P.depth e count off e n = true := by
  have hd : P.depth = (2 * (P.types.size + Made.depth) + 1) + 1 := rfl
  rw [hd]
  simp only [liesAt, Bool.or_eq_true]
  left
  rw [hd]
  have : ¬ k = 0 := by omega
  simp [rowAt, hc, hn, sameLayout, ho, this]
theorem u2p_ok {tt : TypeId} {k : Nat} (ht : P.underlying t = some .unsafePointer) (hu : P.underlying u = some (.pointer tt)) (hs : szOf P tt = some k) : VS P N pl ⟨dst, .convert t u x, ty, ps, af, gd⟩ (u2pV P tt (cO pl x)) := by
  intro pb pn G h nx w e a R EE
  have rx := EE.val x (by simp [Op.operands])
  refine ROk.rif fun h5 => ?_
  obtain ⟨nm, off, b, s, tot, z, hx, hcc, hG, hn, ho⟩ := rx.inv_ptr (isT_ok h5)
  have rx' := rx
  rw [hx] at rx'
  rw [hcc, adN_P hn]
  rw [hcc] at rx'
  cases hob : h.get nm with
  | row cl fz el n r =>
    refine ROk.rif fun hcl => ROk.rif fun hlies => ?_
    subst hcl
    rw [adO_P hn] at hlies
    have hO := R.obj nm (by rw [hG]; simp)
    rw [hob] at hO
    obtain ⟨b', s', tot', sz', cs, lo, hi, g1, g2, g3, g4, g5, g6, g7, g8⟩ := hO
    rw [hG] at g1
    injection g1 with g1
    injection g1 with p1 p2 p3 p4
    subst p1 p2 p3 p4
    obtain ⟨q1, q2⟩ := g5 rfl
    obtain ⟨j, hj⟩ : ∃ j, P.info? tt = some j := by
      unfold szOf at hs
      cases hi : P.info? tt with
      | none => rw [hi] at hs; cases hs
      | some j => exact ⟨j, rfl⟩
    have hsh : w.shape? b = some (el, cs.size) := by unfold World.shape?; rw [g2]
    have hlies : liesAt P P.depth el (cs.size / P.cellsOf el) (s + off) tt 1 = true := by
      subst q1
      rw [Nat.zero_add, g3, ← q2]
      exact hlies
    have hr := Lib.run_from_unsafe (P := P) w (src := t) (dst := u) ⟨b, s + off, none⟩ ht hu hj hsh hlies
    exact ⟨.pointer (some ⟨b, s + off, none⟩), by simp only [execOp, hx, Sem.run_bind, hr]; rfl, rx'⟩
  | _ => trivial
/-- one way, or else another -/
noncomputable def orV (f g : V) : V := fun e h => Res.rec (g e h) .val .imm .blk (f e h)
theorem orV_ok {o : Oper} {f g : V} (hf : VS P N pl o f) (hg : VS P N pl o g) : VS P N pl o (orV f g) := by
  intro pb pn G h nx w e a R EE
  have h1 := hf pb pn G h nx w e a R EE
  have h2 := hg pb pn G h nx w e a R EE
  unfold orV
  cases hq : f e h with
  | no => exact h2
  | val c => rw [hq] at h1; exact h1
  | imm t o => rw [hq] at h1; exact h1
  | blk t o => rw [hq] at h1; exact h1
noncomputable def sameP (c d : Nat) : Bool := Bool.rec false (Nat.beq c d) (isT 5 c)
theorem eqSameP_ok {el : TypeId} {k : Nat} (ht : P.underlying t = some (.pointer el)) (hs : szOf P el = some k) : VS P N pl ⟨dst, .binOp .neq t x y u, ty, ps, af, gd⟩ (v2 (cO pl x) (cO pl y) sameP fun _ _ => 1) := by
  refine v2_ok (ho := fun a w G c d v u' hv hu rv ru ht' => ?_)
  unfold sameP at ht'
  cases h5 : isT 5 c
  · rw [h5] at ht'; cases ht'
  · rw [h5] at ht'
    have hcd : c = d := Nat.eq_of_beq_eq_true ht'
    subst hcd
    obtain ⟨nm, off, b, s, tot, z, hv1, hc, hG, hn, ho⟩ := rv.inv_ptr (isT_ok h5)
    obtain ⟨nm', off', b', s', tot', z', hv2, hc', hG', hn', ho'⟩ := ru.inv_ptr (isT_ok h5)
    have e1 : nm = nm' := by have := congrArg adN (hc.symm.trans hc'); rwa [adN_P hn, adN_P hn'] at this
    have e2 : off = off' := by have := congrArg adO (hc.symm.trans hc'); rwa [adO_P hn, adO_P hn'] at this
    subst e1 e2
    rw [hG] at hG'
    injection hG' with hG'
    injection hG' with p1 p2 p3 p4
    subst p1 p2
    obtain ⟨j, hj⟩ : ∃ j, P.info? el = some j := by
      unfold szOf at hs
      cases hi : P.info? el with
      | none => rw [hi] at hs; cases hs
      | some j => exact ⟨j, rfl⟩
    have hr := Lib.run_neq_ptr_same (P := P) w ⟨b, s + off, none⟩ ht hj
    refine ⟨.bool false, ?_, .bool false⟩
    simp [execOp, hv, hu, hv1, hv2, eqGuard, hr]
/-! ### texts of bytes in place -/
noncomputable def sdV (x : Nat → Nat) : V := fun e _ => Bool.rec (rif (isT 7 (x e)) (rif (Bool.rec (Nat.blt 1 (slC (x e))) true (Nat.blt 0 (slL (x e)))) (.val (cP (slN (x e)) (slO (x e)))))) (.val 4) (Nat.beq (x e) 6)
theorem sd_ok {ats : Array TypeId} : VS P N pl ⟨dst, .call { callee := .builtin .unsafeSliceData, args := #[x], argTypes := ats }, ty, ps, af, gd⟩ (sdV (cO pl x)) := by
  intro pb pn G h nx w e a R EE
  have rx := EE.val x (by simp [Op.operands, Call.operands])
  show ROk P G w _ (Bool.rec _ _ (Nat.beq (cO pl x e) 6))
  cases h6 : Nat.beq (cO pl x e) 6 with
  | true =>
    have h6 := Nat.eq_of_beq_eq_true h6
    rw [h6] at rx
    obtain ⟨hx, _⟩ := rx.inv_nils rfl
    have hr := Lib.run_unsafeSliceData_nil (P := P) w ats ty 0 0
    exact ⟨.pointer none, by simp [execOp, resolve, invoke, builtin, hx, hr], .nilp⟩
  | false =>
    refine ROk.rif fun h7 => ROk.rif fun hcap => ?_
    obtain ⟨nm, off, len, cc, cap, b, s, tot, z, hx, hc, hG, hnm, ho, hlb, hcb, q1, q2⟩ := rx.inv_sl (isT_ok h7)
    obtain ⟨e1, e2, e3, e4⟩ := sl_parts (cc := cc) hnm ho hlb
    rw [hc] at hcap ⊢
    rw [e3, e4] at hcap
    rw [e1, e2]
    have hcap0 : cap ≠ 0 := by
      cases hl : Nat.blt 0 len
      · rw [hl] at hcap
        have h1 : 1 < cc := blt_ok hcap
        rw [if_neg (by omega)] at q1
        omega
      · have h1 : 0 < len := blt_ok hl
        omega
    have hr := Lib.run_unsafeSliceData_row (P := P) w ats ty ⟨b, s + off, none⟩ len cap hcap0
    exact ⟨.pointer (some ⟨b, s + off, none⟩), by simp [execOp, resolve, invoke, builtin, hx, hr], .ptr nm off b s tot z hG hnm ho⟩
theorem freeze_lk (w : World) (A : Addr) (n : Nat) : Lk w (w.freeze A n) := by unfold World.freeze; split <;> exact ⟨rfl, rfl⟩
theorem Rel.rom (R : Rel P pb pn G h nx w) {b s tot sz : Nat} (hG : G nm = some (.blk b s tot sz)) (hm : isMut (h.get nm) = true) {o : Obj}
    (hw : ∀ x, x ≠ b → w'.heap[x]? = w.heap[x]?) (hs : w'.heap.size = w.heap.size) (hO : ORel P G nm w' o) (lk : Lk w w' := by exact ⟨rfl, rfl⟩) : Rel P pb pn G (h.set nm o) nx w' := by
  have hlt : nm < 1000000000 := Nat.lt_trans (R.lt (by rw [hG]; simp)) (Nat.lt_trans R.nxb (by decide))
  have key : ∀ k b' s' t' z', k ≠ nm → G k = some (.blk b' s' t' z') → isBlk (h.get k) = true → b' ≠ b := fun k b' s' t' z' hk hGk hb e => by
    subst e
    exact hk (R.inj k nm _ _ _ _ _ _ _ hGk hG hb (isBlk_of_mut hm))
  refine ⟨fun k hg => ?_, fun n1 n2 b' s1 t1 z1 s2 t2 z2 g1 g2 m1 m2 => ?_, fun b' o' e => ⟨?_, fun k s' t' z' hGk => ?_⟩, fun k o' e => ?_, R.fresh, fun k b' s' t' z' e => by rw [hs]; exact R.bd k b' s' t' z' e, R.nxb, fun k hk => by rw [Tr.get_set _ _ _ hlt, if_neg (by have := R.lt (nm := nm) (by rw [hG]; simp); omega)]; exact R.non k hk, lk.to R.oo⟩
  · rw [Tr.get_set _ _ _ hlt]
    by_cases hk : k = nm
    · subst hk; rw [if_pos rfl]; exact hO
    · rw [if_neg hk]
      exact (R.obj k hg).mono Gle.rfl fun b' s' t' z' hGk hb => hw b' (key k b' s' t' z' hk hGk hb)
  · rw [Tr.get_set _ _ _ hlt] at m1 m2
    have f : ∀ k, isBlk (if k = nm then o else h.get k) = true → isBlk (h.get k) = true := fun k hk => by
      by_cases e : k = nm
      · subst e; exact isBlk_of_mut hm
      · rw [if_neg e] at hk; exact hk
    exact R.inj n1 n2 _ _ _ _ _ _ _ g1 g2 (f _ m1) (f _ m2)
  · rw [hw b' (fun e2 => by subst e2; have := (R.pb _ _ e).2 nm _ _ _ hG; rw [this] at hm; cases hm)]
    exact (R.pb b' o' e).1
  · rw [Tr.get_set _ _ _ hlt]
    by_cases hk : k = nm
    · subst hk
      have := (R.pb _ _ e).2 k _ _ _ hGk
      rw [this] at hm; cases hm
    · rw [if_neg hk]; exact (R.pb _ _ e).2 k _ _ _ hGk
  · obtain ⟨h1, h2, h3⟩ := R.pn k o' e
    have hk : k ≠ nm := fun e2 => by subst e2; rw [hG] at h2; cases h2
    rw [Tr.get_set _ _ _ hlt, if_neg hk]
    exact ⟨h1, h2, h3⟩
noncomputable def usN (el c : Nat) (h : Tr) (nx : Nat) (kv : KV) (n : Nat) : T := Bool.rec (chk (isT 5 c) (wrR T.fail (h.get (adN c)) fun _ _ el' m r => chk (Nat.beq el' el) (chk (Nat.ble (Nat.add (adO c) n) m) (chk (allB n (sub r (adO c) n)) (chk (Nat.blt nx 16000000)
  (kv (cS nx) ((h.set (adN c) (.rom el' m r)).set nx (.txt n (sub r (adO c) n))) (Nat.add nx 1))))))) (chk (Bool.rec (Nat.beq c 4) true (isT 5 c)) (kv 16 h nx)) (Nat.beq n 0)
noncomputable def usX (el : Nat) (x y : Nat → Nat) : CV := fun _ e h nx kv => chk (isN .i64 (y e)) (idx T.fail (y e) (usN el (x e) h nx kv))
theorem us_ok {pt it e8 : TypeId} (hp : P.underlying pt = some (.pointer e8)) (he : P.underlying e8 = some (.int .u8)) (hc : P.cellsOf e8 = 1) :
    XS P N pl ⟨dst, .call { callee := .builtin .unsafeString, args := #[x, y], argTypes := #[pt, it] }, ty, ps, af, gd⟩ (usX e8 (cO pl x) (cO pl y)) := by
  refine xs_run fun cl φ pb pn G h nx w e a kv R EE H => ?_
  have rx := EE.val x (by simp [Op.operands, Call.operands])
  have ry := EE.val y (by simp [Op.operands, Call.operands])
  obtain ⟨hi64, H⟩ := Tall.chk H
  rcases idx_cases (z := T.fail) (k := usN e8 (cO pl x e) h nx kv) ry with hf | ⟨kk, n, hy, hf⟩
  · rw [hf] at H; exact H.elim
  · rw [hf] at H
    obtain ⟨n', p', hy', _, hb1, hb2⟩ := ry.num (isN_ok hi64)
    rw [hy] at hy'
    injection hy' with hkk hnn
    subst hkk
    rcases Tall.cases H with ⟨hn0, H⟩ | ⟨hn0, H⟩
    · have hn0 : n ≠ 0 := fun e0 => by subst e0; cases hn0
      obtain ⟨h5, H⟩ := Tall.chk H
      obtain ⟨nm, off, b, s, tot, z, hx, hcx, hG, hn, ho⟩ := rx.inv_ptr (isT_ok h5)
      rw [hcx, adN_P hn, adO_P hn] at H
      obtain ⟨cl', fz, el, m, r, hob, H⟩ := Tall.wrR H
      obtain ⟨hel, H2⟩ := Tall.chk H
      clear H
      have hel := Nat.eq_of_beq_eq_true hel
      subst hel
      obtain ⟨hle, H⟩ := Tall.chk H2
      have hle : off + n ≤ m := Nat.le_of_ble_eq_true hle
      obtain ⟨hall, H⟩ := Tall.chk H
      obtain ⟨hnx, H⟩ := Tall.chk H
      have hO := R.obj nm (by rw [hG]; simp)
      rw [hob] at hO
      obtain ⟨b', s', tot', sz', cs, lo, hi, g1, g2, g3, g4, g5, g6, g7, g8⟩ := hO
      rw [hG] at g1
      injection g1 with g1
      injection g1 with p1 p2 p3 p4
      subst p1 p2 p3 p4
      have RA : RowAt P G w b s m r cs el (lo, hi) := ⟨g2, by omega, g8⟩
      obtain ⟨l, hl1, hl2⟩ := RA.cel hle
      obtain ⟨bs, rfl, hlen, hd⟩ := hl1.bytes hall
      obtain ⟨f1, f2, f3⟩ := freeze_heap (w := w) (o := s + off) (n := n) g2 hn0
      have hN : G nx = none := R.fresh nx (Nat.le_refl _)
      have hsh : w.shape? b = some (el, cs.size) := by unfold World.shape?; rw [g2]
      have hlies : liesAt P P.depth el (cs.size / P.cellsOf el) (s + off) el n = true := lies_self hc (by omega) (by omega) (by rw [hc]; simp; omega)
      have hva : (variablesAt ⟨b, s + off, none⟩ el n).run P w = .ok true w := by simp [variablesAt, shape, Sem.run, hsh, hlies, program]
      have hld := Lib.run_loadBytes (P := P) w bs ⟨b, s + off, none⟩ .empty (fun j x hj => by
        rw [Addr.add_mid]
        exact hl2 j _ (by rw [List.getElem?_map, hj]; rfl))
      rw [hlen] at hld
      have hrun : (Builtin.unsafeString_ #[pt, it] ty #[.pointer (some ⟨b, s + off, none⟩), .int .i64 (n : Int)]).run P w = .ok (.string ⟨bs.toArray⟩) (w.freeze ⟨b, s + off, none⟩ n) := by
        obtain ⟨m1, hdef⟩ : ∃ m1 : String, Builtin.unsafeString_ #[pt, it] ty #[.pointer (some ⟨b, s + off, none⟩), .int .i64 (n : Int)] =
          (do
            let n' ← asInt (.int .i64 (n : Int))
            if n' < 0 then runtimePanic (.error m1)
            if n' > IntKind.i64.max then unsupported (.unsafePointer "String: a length above the largest int")
            if n' = 0 then pure (.string .empty)
            else if ← variablesAt ⟨b, s + off, none⟩ (← elemOf pt) n'.toNat then do
              let s' ← loadBytes ⟨b, s + off, none⟩ .empty n'.toNat
              freeze ⟨b, s + off, none⟩ n'.toNat
              pure (.string s')
            else unsupported (.unsafePointer "String: not so many bytes at ptr")) := ⟨_, rfl⟩
        have h1 : ¬ ((n : Int) < 0) := by omega
        have h2 : ¬ ((n : Int) > IntKind.i64.max) := by
          have hmax : IntKind.i64.max = 9223372036854775807 := rfl
          have hm : modu .i64 = 18446744073709551616 := rfl
          have hbs : bias .i64 = 9223372036854775808 := rfl
          have e1 : n' = (n : Int) := hnn.symm
          rw [hmax]
          rw [e1, hbs] at hb1
          rw [hm] at hb2
          omega
        have h3 : ¬ ((n : Int) = 0) := by omega
        rw [hdef]
        have hmax : IntKind.i64.max = 9223372036854775807 := rfl
        rw [hmax] at h2
        simp [asInt, asIntOf, h1, h2, h3, hn0, elemOf, run_underlying hp, hva, hld, freeze, Sem.run, hmax]
      have R1 : Rel P pb pn G (h.set nm (.rom el m r)) nx (w.freeze ⟨b, s + off, none⟩ n) := R.rom hG (by rw [hob]; rfl) f2 f3 ⟨b, s, tot, z, cs, _, hG, f1, g3, g4, g7, g8⟩ (freeze_lk _ _ _)
      have hg : Gle G (Gup G nx (.val (.string ⟨bs.toArray⟩))) := Gup.le hN
      refine ⟨.string ⟨bs.toArray⟩, w.freeze ⟨b, s + off, none⟩ n, Gup G nx (.val (.string ⟨bs.toArray⟩)), _, _, _, ?_, hg, R1.newV (o := .txt n (sub r off n)) rfl (nxOk hnx) ⟨⟨bs.toArray⟩, Gup.at _ _ _, hlen, by rw [hd]⟩, .str nx _ (Gup.at _ _ _) R.nxb, H⟩
      simp only [execOp, resolve, invoke, builtin, Sem.run_bind, Sem.run_pure, Result.andThen_ok, List.map_toArray, List.map_cons, List.map_nil, hx, hy, hrun]
    · have hn0 : n = 0 := Nat.eq_of_beq_eq_true hn0
      subst hn0
      obtain ⟨hp4, H⟩ := Tall.chk H
      obtain ⟨p, hx⟩ : ∃ p, a.eval x = .pointer p := by
        cases h5 : isT 5 (cO pl x e)
        · rw [h5] at hp4
          have h4 : cO pl x e = 4 := Nat.eq_of_beq_eq_true hp4
          rw [h4] at rx
          exact ⟨_, (rx.inv_nilp rfl).1⟩
        · obtain ⟨nm, off, b, s, tot, z, hx, _⟩ := rx.inv_ptr (isT_ok h5)
          exact ⟨_, hx⟩
      have hr := Lib.run_unsafeString_none (P := P) w pt it ty p
      refine ⟨.string ⟨#[]⟩, w, G, h, nx, 16, ?_, Gle.rfl, R, .str0, H⟩
      simp only [execOp, resolve, invoke, builtin, Sem.run_bind, Sem.run_pure, Result.andThen_ok, List.map_toArray, List.map_cons, List.map_nil, hx, hy]
      rw [show ((0 : Nat) : Int) = 0 from rfl, hr]
      rfl
end Go.Ev
end
section
/- Functions without bodies; structs held against each other. -/
set_option linter.all false
namespace Go.Ev
open Go Go.RowKit Go.Hub
variable {P : Program} {N : Nat} {pl : List Value} {dst : Option Nat} {ty : TypeId} {ps : String} {af : Array Edge} {gd : Option (Nat × Bool)} {x y z : Operand} {t u : TypeId}
variable {φ : Nat → Tr → Nat → Prop} {pb : Kb} {pn : Nat → Option Obj} {G G' : Gh} {h h' : Tr} {nx nm : Nat} {w w' : World}

/-- the functions without bodies that are known: 1 hands its argument back, 2 counts a byte in a text, 3 makes a row of bytes -/
structure ExtT (P : Program) (e8 : Nat) (ex : Nat → Nat) : Prop where
  one : ∀ f, ex f = 1 → ∀ v w, (callFunc f #[v]).run P w = .ok (.value v) w
  two : ∀ f, ex f = 2 → ∀ (s : ByteArray) (c : Int) w, (callFunc f #[.string s, .int .u8 c]).run P w = .ok (.value (.int .i64 (Lib.countByte s.data.toList c.toNat.toUInt8))) w
  three : ∀ f, ex f = 3 → ∀ (n : Nat) w, n ≤ 281474976710656 → ∃ cs : Array Value, (callFunc f #[.int .i64 n]).run P w = .ok (.value (.slice (some ⟨w.heap.size, 0, none⟩) n cs.size)) (w.drew.drew.alloc (.cells cs e8)) ∧ n ≤ cs.size
theorem call1 {f : Nat} {ats : Array TypeId} {a : Act} {r : Result Next} (h : (callFunc f #[a.eval x]).run P w = r) : (execOp a.eval ⟨dst, .call { callee := .value (.func f), args := #[x], argTypes := ats }, ty, ps, af, gd⟩).run P w = r := by
  rw [← h]
  simp [execOp, resolve, invoke, Deferred.ofValue, Act.eval]
theorem call2 {f : Nat} {ats : Array TypeId} {a : Act} {r : Result Next} (h : (callFunc f #[a.eval x, a.eval y]).run P w = r) : (execOp a.eval ⟨dst, .call { callee := .value (.func f), args := #[x, y], argTypes := ats }, ty, ps, af, gd⟩).run P w = r := by
  rw [← h]
  simp [execOp, resolve, invoke, Deferred.ofValue, Act.eval]
variable {ex : Nat → Nat} {e8 : Nat}
theorem ex1_ok (hE : ExtT P e8 ex) {f : Nat} (hf : ex f = 1) {ats : Array TypeId} : VS P N pl ⟨dst, .call { callee := .value (.func f), args := #[x], argTypes := ats }, ty, ps, af, gd⟩ (v1 (cO pl x) (fun _ => true) fun c => c) := by
  refine v1_ok (hx := by simp [Op.operands, Call.operands]) (ho := fun a w G c v hv rv ht => ?_)
  exact ⟨v, call1 (by rw [hv]; exact hE.one f hf v w), rv⟩
noncomputable def cntR (r c n : Nat) : Nat := Nat.rec 0 (fun j k => Bool.rec k (Nat.add k 1) (Nat.beq (getS r j) c)) n
theorem cntR_ok (l : List UInt8) (b : UInt8) : ∀ n, n ≤ l.length → cntR (rowB l) (cI .u8 b.toNat) n = (l.take n).count b := by
  intro n
  induction n with
  | zero => intro _; rfl
  | succ n ih =>
    intro h
    have h1 : l[n]? = some l[n] := List.getElem?_eq_getElem (by omega)
    have e : cntR (rowB l) (cI .u8 b.toNat) (n + 1) = Bool.rec (cntR (rowB l) (cI .u8 b.toNat) n) (cntR (rowB l) (cI .u8 b.toNat) n + 1) (Nat.beq (getS (rowB l) n) (cI .u8 b.toNat)) := rfl
    rw [e, ih (by omega), List.take_succ, h1, getS_rowB, h1]
    show (Bool.rec _ _ (Nat.beq (cI .u8 (l[n]).toNat) (cI .u8 b.toNat)) : Nat) = _
    rw [List.count_append, cI8, cI8, beqN]
    by_cases hq : l[n] = b
    · rw [decide_eq_true (by rw [hq])]
      simp [hq]
    · rw [decide_eq_false (fun h => hq (UInt8.toNat_inj.1 (by omega)))]
      have : List.count b [l[n]] = 0 := List.count_eq_zero.2 (by simp; exact fun h => hq h.symm)
      simp [this]
noncomputable def cntV (x y : Nat → Nat) : V := fun e h => rif (isN .u8 (y e)) (txtR Res.no h (x e) fun n r => rif (Nat.blt n 1000000) (.val (nI (cntR r (y e) n))))
theorem ex2_ok (hE : ExtT P e8 ex) {f : Nat} (hf : ex f = 2) {ats : Array TypeId} : VS P N pl ⟨dst, .call { callee := .value (.func f), args := #[x, y], argTypes := ats }, ty, ps, af, gd⟩ (cntV (cO pl x) (cO pl y)) := by
  intro pb pn G h nx w e a R EE
  have rx := EE.val x (by simp [Op.operands, Call.operands])
  have ry := EE.val y (by simp [Op.operands, Call.operands])
  refine ROk.rif fun hN => ROk.txt R rx fun bs hx => ROk.rif fun hlt => ?_
  have hlt : bs.size < 1000000 := blt_ok hlt
  obtain ⟨n, p, hy, hc, e1, l1⟩ := ry.num (isN_ok hN)
  have hn : n = (p : Int) := by simp only [bias] at e1; omega
  have hp : p < 256 := l1
  subst hn
  have hb : cO pl y e = cI .u8 (UInt8.ofNat p).toNat := by
    rw [hc, cI8]
    simp only [UInt8.toNat_ofNat']
    show 130 + 256 * p = _
    congr 2
    omega
  have hl : bs.data.toList.length = bs.size := by rw [Array.length_toList]; rfl
  have hcnt : cntR (rowB bs.data.toList) (cO pl y e) bs.size = bs.data.toList.count (UInt8.ofNat p) := by
    rw [hb, ← hl, cntR_ok _ _ _ (Nat.le_refl _), List.take_length]
  have hle : bs.data.toList.count (UInt8.ofNat p) ≤ bs.size := by rw [← hl]; exact List.count_le_length
  have hr := hE.two f hf bs (p : Int) w
  rw [hcnt]
  refine ⟨.int .i64 ((bs.data.toList.count (UInt8.ofNat p) : Nat) : Int), call2 (by rw [hx, hy]; exact hr), nI_ok (by omega)⟩
noncomputable def mkNX (el : Nat) (x : Nat → Nat) : CV := fun _ e h nx kv => chk (isN .i64 (x e)) (idx T.fail (x e) fun n => chk (Nat.blt n 1048576) (newR 0 el 0 0 h nx n kv))
theorem ex3_ok (hE : ExtT P e8 ex) {f : Nat} (hf : ex f = 3) (hs : szOf P e8 = some 1) {ats : Array TypeId} : XS P N pl ⟨dst, .call { callee := .value (.func f), args := #[x], argTypes := ats }, ty, ps, af, gd⟩ (mkNX e8 (cO pl x)) := by
  refine xs_run fun cl φ pb pn G h nx w e a kv R EE H => ?_
  have rx := EE.val x (by simp [Op.operands, Call.operands])
  obtain ⟨hN, H⟩ := Tall.chk H
  rcases idx_cases (z := T.fail) (k := fun n => chk (Nat.blt n 1048576) (newR 0 e8 0 0 h nx n kv)) rx with hq | ⟨kk, n, hx, hq⟩
  · rw [hq] at H; exact H.elim
  · rw [hq] at H
    obtain ⟨n', p', hx', _, _, _⟩ := rx.num (isN_ok hN)
    rw [hx] at hx'
    injection hx' with hkk hnn
    subst hkk
    obtain ⟨hlt, H⟩ := Tall.chk H
    have hlt : n < 1048576 := blt_ok hlt
    obtain ⟨cs, hr, hle⟩ := hE.three f hf n w (by omega)
    obtain ⟨hnx, H⟩ := Tall.chk H
    have hN : G nx = none := R.fresh nx (Nat.le_refl _)
    have hg : Gle G (Gup G nx (.blk w.heap.size 0 cs.size 1)) := Gup.le hN
    refine ⟨.slice (some ⟨w.heap.size, 0, none⟩) n cs.size, w.drew.drew.alloc (.cells cs e8), Gup G nx (.blk w.heap.size 0 cs.size 1), _, _, _, call1 (by rw [hx]; exact hr), hg, R.newB (o := .row false 0 e8 0 0) (s := 0) (tot := cs.size) (sz := 1) (O := .cells cs e8) (w' := w.drew.drew.alloc (.cells cs e8)) rfl rfl (nxOk hnx) ⟨w.heap.size, 0, cs.size, 1, cs, 0, 0, Gup.at _ _ _, ?_, rfl, by omega, (fun h => by cases h), .inl rfl, hs, fun i hi => absurd hi (Nat.not_lt_zero _)⟩, ?_, H⟩
    · show (w.heap.push _)[w.heap.size]? = _
      simp
    · exact .sl nx 0 n 0 cs.size w.heap.size 0 cs.size 1 (Gup.at _ _ _) R.nxb (by omega) hlt (by omega) (by rw [if_pos rfl]; omega) hle
/-! ### structs -/
noncomputable def eqAV (f : Bool → Bool) (kd : KD) (x y : Nat → Nat) : V := fun e h => eqK Res.no kd h (x e) (y e) fun b => .val (cB (f b))
theorem run_eqA {kd : List TypeDesc} (hk : KeyT P t (.fl kd)) (hg : P.eqGuardType P.depth t = false) {vx vy : Value} {b : Bool} (hx : isK (.fl kd) vx) (hy : isK (.fl kd) vy) (hb : b = true ↔ vx = vy) {a : Act} (ex : a.eval x = vx) (ey : a.eval y = vy) :
    (execOp a.eval ⟨dst, .binOp .neq t x y u, ty, ps, af, gd⟩).run P w = .ok (.value (.bool (!b))) w ∧ (execOp a.eval ⟨dst, .binOp .eql t x y u, ty, ps, af, gd⟩).run P w = .ok (.value (.bool b)) w := by
  obtain ⟨r, hr, hiff⟩ := key_eq (w := w) hk hx hy
  have : r = b := by
    rw [Bool.eq_iff_iff, hiff, hb]
  subst this
  obtain ⟨xs, rfl, _⟩ := hx
  obtain ⟨ys, rfl, _⟩ := hy
  have h1 := run_eqGuard_agg (P := P) w .neq t x y xs ys hg
  have h2 := run_eqGuard_agg (P := P) w .eql t x y xs ys hg
  have hr : (Op.equalIn 10000 t (.agg xs) (.agg ys)).run P w = .ok r w := hr
  have h3 := run_neq_struct (P := P) w t xs ys
  have h4 := run_eql_struct (P := P) w t xs ys
  rw [hr] at h3 h4
  simp only [Result.andThen_ok] at h3 h4
  constructor
  · simp [execOp, ex, ey, h1, h3]
  · simp [execOp, ex, ey, h2, h4]
theorem neqA_ok {ds : List TypeDesc} (hk : KeyT P t (.fl ds)) (hg : P.eqGuardType P.depth t = false) : VS P N pl ⟨dst, .binOp .neq t x y u, ty, ps, af, gd⟩ (eqAV (fun b => not b) (.fl ds) (cO pl x) (cO pl y)) := by
  intro pb pn G h nx w e a R EE
  rcases eqK_cases (z := Res.no) (kd := .fl ds) (k := fun b => .val (cB (not b))) R (EE.val x (by simp [Op.operands])) (EE.val y (by simp [Op.operands])) with e1 | ⟨k1, k2, b, e1, q⟩
  · show ROk P G w _ (eqK Res.no (.fl ds) h (cO pl x e) (cO pl y e) fun b => .val (cB (not b)))
    rw [e1]; trivial
  · show ROk P G w _ (eqK Res.no (.fl ds) h (cO pl x e) (cO pl y e) fun b => .val (cB (not b)))
    rw [e1]
    exact ⟨_, (run_eqA hk hg k1 k2 q rfl rfl).1, .bool _⟩
theorem eqlA_ok {ds : List TypeDesc} (hk : KeyT P t (.fl ds)) (hg : P.eqGuardType P.depth t = false) : VS P N pl ⟨dst, .binOp .eql t x y u, ty, ps, af, gd⟩ (eqAV (fun b => b) (.fl ds) (cO pl x) (cO pl y)) := by
  intro pb pn G h nx w e a R EE
  rcases eqK_cases (z := Res.no) (kd := .fl ds) (k := fun b => .val (cB b)) R (EE.val x (by simp [Op.operands])) (EE.val y (by simp [Op.operands])) with e1 | ⟨k1, k2, b, e1, q⟩
  · show ROk P G w _ (eqK Res.no (.fl ds) h (cO pl x e) (cO pl y e) fun b => .val (cB b))
    rw [e1]; trivial
  · show ROk P G w _ (eqK Res.no (.fl ds) h (cO pl x e) (cO pl y e) fun b => .val (cB b))
    rw [e1]
    exact ⟨_, (run_eqA hk hg k1 k2 q rfl rfl).2, .bool _⟩
/-! ### parts of slices, as far as cells are told -/
noncomputable def sltR (el sz c i j : Nat) (h : Tr) : Res := rif (isT 7 c) (rif (Nat.beq (slC c) 0) (rif (isEl h c el) (rif (Nat.blt i j) (rif (Nat.blt 0 sz) (rif (Nat.blt j 1048576) (rdR Res.no (h.get (slN c)) fun n _ => rif (Nat.ble (Nat.add (slO c) (Nat.mul j sz)) n) (mkL sz c i j 0)))))))
theorem sltR_ok {S : Sem Next} {el c sz i j : Nat} {v : Value} (R : Rel P pb pn G h nx w) (hs : szOf P el = some sz) (hv : VRel G c v) (hS : SlRun P w S v sz i j 0) : ROk P G w S (sltR el sz c i j h) := by
  refine ROk.rif fun h7 => ROk.rif fun h0 => ROk.rif fun hel => ROk.rif fun hij => ROk.rif fun hpos => ROk.rif fun hjb => ?_
  have hij := blt_ok hij
  have hjb := blt_ok hjb
  have hpos := blt_ok hpos
  have ht := isT_ok h7
  have hz := isEl_ok R hs hel
  obtain ⟨nm, off, len, cc, cap, b, s, tot, z, rfl, rfl, hG, hn, ho, hl, hc, hcap, hlc⟩ := hv.inv_sl ht
  obtain ⟨p1, p2, p3, p4⟩ := sl_parts (cc := cc) hn ho hl
  rw [p4] at h0
  have h0 := Nat.eq_of_beq_eq_true h0
  subst h0
  have hzz := hz nm b s tot z ht hG p1
  subst hzz
  rw [if_pos rfl] at hcap
  rw [p1]
  refine ROk.rdR R hG fun n r cs el' fr RA hsz htot => ROk.rif fun hle => ?_
  rw [p2] at hle
  have hle : off + j * z ≤ n := Nat.le_of_ble_eq_true hle
  have hbd := RA.bd
  have hjc : j ≤ cap := by
    have : j * z ≤ cap * z := by omega
    exact Nat.le_of_mul_le_mul_right this hpos
  have hr := hS _ _ _ rfl (by omega) (by rw [if_pos rfl]; exact hjc) (by rw [if_pos rfl]; exact Nat.le_refl _)
  rw [if_pos rfl, if_neg (by omega)] at hr
  unfold mkL
  refine ROk.rif fun hlt => ?_
  rw [p2] at hlt
  have hlt : off + i * z < 1048576 := blt_ok hlt
  rw [p1, p2]
  have e1 : (some (⟨b, s + off, none⟩ : Addr)).map (·.add (i * z)) = some ⟨b, s + (off + i * z), none⟩ := by
    simp only [Option.map_some, Addr.add_mid]
    rw [Nat.add_assoc]
  rw [e1] at hr
  have hmul : i * z + (cap - i) * z = cap * z := by rw [← Nat.add_mul]; congr 1; omega
  exact ⟨_, hr, .sl nm (off + i * z) (j - i) 0 (cap - i) b s tot z hG hn hlt (by omega) (by omega) (by rw [if_pos rfl]; omega) (by omega)⟩
noncomputable def sltV (el sz : Nat) (x y z : Nat → Nat) : V := fun e h => idx Res.no (y e) fun i => idx Res.no (z e) fun j => sltR el sz (x e) i j h
theorem slt_ok {el sz : Nat} (ht : P.underlying t = some (.slice el)) (hs : szOf P el = some sz) : VS P N pl ⟨dst, .slice t x (some y) (some z) none, ty, ps, af, gd⟩ (sltV el sz (cO pl x) (cO pl y) (cO pl z)) := by
  intro pb pn G h nx w e a R EE
  refine ROk.idx (EE.val y (by simp [Op.operands])) fun k1 i hi => ROk.idx (EE.val z (by simp [Op.operands])) fun k2 j hj => sltR_ok R hs (EE.val x (by simp [Op.operands])) ?_
  intro A len cap hv h1 h2 h3
  have := E.slL (P := P) (a := a) (w := w) (dst := dst) (ty := ty) (ps := ps) (af := af) (g := gd) (x := .const (.slice A len cap)) (y := .const (.int k1 (i : Int))) (z := .const (.int k2 (j : Int))) EE.fr ht hs rfl rfl rfl (by omega) (by omega) (by simp at h2; omega)
  rw [Int.toNat_natCast, Int.toNat_natCast] at this
  simp only [if_true]
  rw [← this]
  simp only [execOp, Option.map_some, hv, hi, hj]
  rfl
noncomputable def slthV (el sz : Nat) (x y : Nat → Nat) : V := fun e h => idx Res.no (y e) fun j => sltR el sz (x e) 0 j h
theorem slth_ok {el sz : Nat} (ht : P.underlying t = some (.slice el)) (hs : szOf P el = some sz) : VS P N pl ⟨dst, .slice t x none (some y) none, ty, ps, af, gd⟩ (slthV el sz (cO pl x) (cO pl y)) := by
  intro pb pn G h nx w e a R EE
  refine ROk.idx (EE.val y (by simp [Op.operands])) fun k1 j hj => sltR_ok R hs (EE.val x (by simp [Op.operands])) ?_
  intro A len cap hv h1 h2 h3
  have := E.slLhi (P := P) (a := a) (w := w) (dst := dst) (ty := ty) (ps := ps) (af := af) (g := gd) (x := .const (.slice A len cap)) (y := .const (.int k1 (j : Int))) EE.fr ht hs rfl rfl (by omega) (by simp at h2; omega)
  rw [Int.toNat_natCast] at this
  have e0 : (if cap = 0 then A else A.map (·.add (0 * sz))) = A := by
    split
    · rfl
    · cases A with
      | none => rfl
      | some b => cases b with | mk b o s => simp [Addr.add]
  simp only [if_true, e0, Nat.sub_zero]
  rw [← this]
  simp only [execOp, Option.map_some, hv, hj]
  rfl
end Go.Ev
end
section
/- A region whose order is drawn: evaluated in one order, right in each. -/
set_option linter.all false
namespace Go.Ev
open Go Go.RowKit Go.Hub
variable {P : Program} {N : Nat} {pl : List Value}
variable {φ : Nat → Tr → Nat → Prop} {pb : Kb} {pn pn' : Nat → Option Obj} {G G' : Gh} {h h' : Tr} {nx nm : Nat} {w w' : World}

/-! ### what a region's edges tell -/
/-- which come ahead, as a number's bits: by edges, and through those -/
def uni (ms : List Nat) : List Edge → Nat
  | [] => 0
  | e :: r => cond (Region.binds .any e) (Nat.lor (Nat.lor (Nat.pow 2 e.on) (ms.getD e.on 0)) (uni ms r)) (uni ms r)
def masks : List Oper → List Nat → List Nat
  | [], acc => acc
  | o :: r, acc => masks r (acc ++ [uni acc o.after.toList])
def dstOf (ops : Array Oper) (i : Nat) : Option Nat := (ops[i]?).bind (·.dst)
/-- edges go back -/
def backE (i : Nat) : List Edge → Bool
  | [] => true
  | e :: r => cond (Region.binds .any e) (cond (Nat.blt e.on i) (backE i r) false) (backE i r)
def backs : List Oper → Nat → Bool
  | [], _ => true
  | o :: r, i => cond (backE i o.after.toList) (backs r (i + 1)) false
def isTmp (t : Nat) : Operand → Bool
  | .tmp u => Nat.beq u t
  | _ => false
/-- does an operation name the slot? -/
def names (ops : Array Oper) (o : Oper) (t : Nat) : Bool := cond ((looks ops o).any (isTmp t)) true (match o.dst with | some d => Nat.beq d t | none => false)
/-- two that name a slot, one of which writes it, are in one order -/
def pairOk (ops : Array Oper) (ms : List Nat) (i : Nat) (oi : Oper) : List Oper → Nat → Bool
  | [], _ => true
  | oj :: r, j => cond (match oj.dst with
      | some t => cond (names ops oi t) (cond (Nat.beq i j) true (cond (Nat.testBit (ms.getD i 0) j) true (Nat.testBit (ms.getD j 0) i))) true
      | none => true) (pairOk ops ms i oi r (j + 1)) false
def pairsOk (ops : Array Oper) (ms : List Nat) : List Oper → Nat → Bool
  | [], _ => true
  | oi :: r, i => cond (pairOk ops ms i oi ops.toList 0) (pairsOk ops ms r (i + 1)) false
structure Stat (ops : Array Oper) (ms : List Nat) : Prop where
  dep : ∀ i o, ops[i]? = some o → ∀ e ∈ o.after.toList, Region.binds .any e = true → e.on < i ∧ (ms.getD i 0).testBit e.on = true
  just : ∀ i j, (ms.getD i 0).testBit j = true → ∃ o e, ops[i]? = some o ∧ e ∈ o.after.toList ∧ Region.binds .any e = true ∧ (j = e.on ∨ (ms.getD e.on 0).testBit j = true)
  tmp : ∀ i j oi t, i ≠ j → ops[i]? = some oi → dstOf ops j = some t → names ops oi t = true → (ms.getD i 0).testBit j = true ∨ (ms.getD j 0).testBit i = true
theorem uni_bit {ms : List Nat} {j : Nat} : ∀ {l : List Edge}, (uni ms l).testBit j = true ↔ ∃ e ∈ l, Region.binds .any e = true ∧ (j = e.on ∨ (ms.getD e.on 0).testBit j = true) := by
  intro l
  induction l with
  | nil => simp [uni]
  | cons e r ih =>
    unfold uni
    cases hb : Region.binds .any e with
    | false =>
      simp only [cond_false, ih, List.mem_cons]
      constructor
      · rintro ⟨e', h1, h2⟩; exact ⟨e', .inr h1, h2⟩
      · rintro ⟨e', rfl | h1, h2⟩
        · rw [hb] at h2; exact absurd h2.1 (by simp)
        · exact ⟨e', h1, h2⟩
    | true =>
      have e1 : Nat.lor (Nat.lor (Nat.pow 2 e.on) (ms.getD e.on 0)) (uni ms r) = (2 ^ e.on ||| ms.getD e.on 0) ||| uni ms r := rfl
      simp only [cond_true, e1, Nat.testBit_or, Bool.or_eq_true, ih, Nat.testBit_two_pow, decide_eq_true_eq, List.mem_cons]
      constructor
      · rintro ((h | h) | ⟨e', h1, h2⟩)
        · exact ⟨e, .inl rfl, hb, .inl h.symm⟩
        · exact ⟨e, .inl rfl, hb, .inr h⟩
        · exact ⟨e', .inr h1, h2⟩
      · rintro ⟨e', rfl | h1, h2, h3⟩
        · rcases h3 with h3 | h3
          · exact .inl (.inl h3.symm)
          · exact .inl (.inr h3)
        · exact .inr ⟨e', h1, h2, h3⟩
theorem masks_spec : ∀ (l : List Oper) (acc : List Nat), ∃ r, masks l acc = acc ++ r ∧ r.length = l.length ∧ ∀ i o, l[i]? = some o → r.getD i 0 = uni ((acc ++ r).take (acc.length + i)) o.after.toList := by
  intro l
  induction l with
  | nil => intro acc; exact ⟨[], by simp [masks], rfl, fun i o h => by simp at h⟩
  | cons o l ih =>
    intro acc
    obtain ⟨r, h1, h2, h3⟩ := ih (acc ++ [uni acc o.after.toList])
    refine ⟨uni acc o.after.toList :: r, by rw [masks, h1]; simp, by simp [h2], fun i o' hi => ?_⟩
    cases i with
    | zero =>
      have : o = o' := by simpa using hi
      subst this
      simp
    | succ i =>
      have := h3 i o' (by simpa using hi)
      have e : (acc ++ [uni acc o.after.toList]).length + i = acc.length + (i + 1) := by simp; omega
      rw [e] at this
      simpa using this
theorem backE_ok {i : Nat} : ∀ {l : List Edge}, backE i l = true → ∀ e ∈ l, Region.binds .any e = true → e.on < i := by
  intro l
  induction l with
  | nil => intro _ e h; cases h
  | cons a r ih =>
    intro hb e he hbi
    unfold backE at hb
    rcases List.mem_cons.1 he with rfl | he
    · rw [hbi] at hb
      simp only [cond_true] at hb
      cases h : Nat.blt e.on i with
      | true => exact blt_ok h
      | false => rw [h] at hb; cases hb
    · refine ih ?_ e he hbi
      cases h1 : Region.binds .any a with
      | false => rw [h1] at hb; exact hb
      | true =>
        rw [h1] at hb
        simp only [cond_true] at hb
        cases h : Nat.blt a.on i with
        | true => rw [h] at hb; exact hb
        | false => rw [h] at hb; cases hb
theorem backs_ok : ∀ {l : List Oper} {k : Nat}, backs l k = true → ∀ i o, l[i]? = some o → ∀ e ∈ o.after.toList, Region.binds .any e = true → e.on < k + i := by
  intro l
  induction l with
  | nil => intro k _ i o h; simp at h
  | cons a r ih =>
    intro k hb i o hi e he hbi
    unfold backs at hb
    cases h1 : backE k a.after.toList with
    | false => rw [h1] at hb; cases hb
    | true =>
      rw [h1] at hb
      cases i with
      | zero =>
        have : a = o := by simpa using hi
        subst this
        exact backE_ok h1 e he hbi
      | succ i =>
        have := ih hb i o (by simpa using hi) e he hbi
        omega
theorem pairOk_ok {ops : Array Oper} {ms : List Nat} {i : Nat} {oi : Oper} : ∀ {l : List Oper} {k : Nat}, pairOk ops ms i oi l k = true → ∀ j oj t, l[j]? = some oj → oj.dst = some t → names ops oi t = true → i ≠ k + j → (ms.getD i 0).testBit (k + j) = true ∨ (ms.getD (k + j) 0).testBit i = true := by
  intro l
  induction l with
  | nil => intro k _ j oj t h; simp at h
  | cons a r ih =>
    intro k hp j oj t hj hd hn hne
    unfold pairOk at hp
    cases j with
    | zero =>
      have : a = oj := by simpa using hj
      subst this
      rw [hd] at hp
      simp only [hn, cond_true, Nat.add_zero] at hp hne ⊢
      rw [show Nat.beq i k = false from by rw [beqN]; exact decide_eq_false hne] at hp
      simp only [cond_false] at hp
      cases h1 : Nat.testBit (ms.getD i 0) k with
      | true => exact .inl rfl
      | false =>
        rw [h1] at hp
        simp only [cond_false] at hp
        cases h2 : Nat.testBit (ms.getD k 0) i with
        | true => exact .inr rfl
        | false => rw [h2] at hp; cases hp
    | succ j =>
      have := ih (k := k + 1) (by
        revert hp
        generalize (match a.dst with | some t => cond (names ops oi t) (cond (Nat.beq i k) true (cond (Nat.testBit (ms.getD i 0) k) true (Nat.testBit (ms.getD k 0) i))) true | none => true) = b
        intro hp
        cases b
        · cases hp
        · exact hp) j oj t (by simpa using hj) hd hn (by omega)
      rw [show k + (j + 1) = k + 1 + j from by omega]
      exact this
theorem pairsOk_ok {ops : Array Oper} {ms : List Nat} : ∀ {l : List Oper} {k : Nat}, pairsOk ops ms l k = true → ∀ i oi, l[i]? = some oi → pairOk ops ms (k + i) oi ops.toList 0 = true := by
  intro l
  induction l with
  | nil => intro k _ i oi h; simp at h
  | cons a r ih =>
    intro k hp i oi hi
    unfold pairsOk at hp
    cases h1 : pairOk ops ms k a ops.toList 0 with
    | false => rw [h1] at hp; cases hp
    | true =>
      rw [h1] at hp
      cases i with
      | zero =>
        have : a = oi := by simpa using hi
        subst this
        exact h1
      | succ i =>
        have := ih hp i oi (by simpa using hi)
        rw [show k + (i + 1) = k + 1 + i from by omega]
        exact this
/-- the region is told rightly -/
def statOk (ops : Array Oper) : Bool := cond (backs ops.toList 0) (pairsOk ops (masks ops.toList []) ops.toList 0) false
theorem Stat.of {ops : Array Oper} (h : statOk ops = true) : Stat ops (masks ops.toList []) := by
  unfold statOk at h
  cases hb : backs ops.toList 0 with
  | false => rw [hb] at h; cases h
  | true =>
    rw [hb] at h
    simp only [cond_true] at h
    obtain ⟨r, h1, h2, h3⟩ := masks_spec ops.toList []
    simp only [List.nil_append, List.length_nil, Nat.zero_add] at h1 h3
    have bk : ∀ i o, ops[i]? = some o → ∀ e ∈ o.after.toList, Region.binds .any e = true → e.on < i := fun i o hi e he hbi => by
      have := backs_ok hb i o (by simpa using hi) e he hbi
      omega
    rw [h1] at h ⊢
    have tk : ∀ i k : Nat, k < i → (r.take i).getD k 0 = r.getD k 0 := fun i k hk => by
      simp [List.getD_eq_getElem?_getD, List.getElem?_take, hk]
    refine ⟨fun i o hi e he hbi => ?_, fun i j hij => ?_, fun i j oi t hne hi hj hn => ?_⟩
    · refine ⟨bk i o hi e he hbi, ?_⟩
      rw [h3 i o (by simpa using hi), uni_bit]
      exact ⟨e, he, hbi, .inl rfl⟩
    · have hlt : i < r.length := by
        rcases Nat.lt_or_ge i r.length with h | h
        · exact h
        · rw [List.getD_eq_getElem?_getD, List.getElem?_eq_none h] at hij
          simp at hij
      have hlt2 : i < ops.size := by rw [h2] at hlt; simpa using hlt
      have hi : ops[i]? = some ops[i] := Array.getElem?_eq_getElem hlt2
      rw [h3 i _ (by rw [Array.getElem?_toList]; exact hi), uni_bit] at hij
      obtain ⟨e, he, hbi, hj⟩ := hij
      refine ⟨_, e, hi, he, hbi, hj.imp id fun hj => ?_⟩
      rw [tk i e.on (bk i _ hi e he hbi)] at hj
      exact hj
    · have := pairsOk_ok h i oi (by simpa using hi)
      rw [Nat.zero_add] at this
      unfold dstOf at hj
      cases hoj : ops[j]? with
      | none => rw [hoj] at hj; cases hj
      | some oj =>
        rw [hoj] at hj
        have := pairOk_ok this j oj t (by simpa using hoj) hj hn (by omega)
        simpa using this
theorem Stat.lt {ops : Array Oper} {ms : List Nat} (S : Stat ops ms) : ∀ i j, (ms.getD i 0).testBit j = true → j < i := by
  intro i
  induction i using Nat.strongRecOn with
  | _ i ih =>
    intro j hij
    obtain ⟨o, e, hi, he, hb, hj⟩ := S.just i j hij
    have := (S.dep i o hi e he hb).1
    rcases hj with rfl | hj
    · exact this
    · have := ih e.on this j hj
      omega
/-- closed: with each one what its edges name -/
def Cl (ops : Array Oper) (S : Nat → Bool) : Prop := ∀ i o, S i = true → ops[i]? = some o → ∀ e ∈ o.after.toList, Region.binds .any e = true → S e.on = true
theorem Stat.anc {ops : Array Oper} {ms : List Nat} (st : Stat ops ms) {S : Nat → Bool} (hc : Cl ops S) : ∀ i j, (∀ o, ops[i]? = some o → ∀ e ∈ o.after.toList, Region.binds .any e = true → S e.on = true) → (ms.getD i 0).testBit j = true → S j = true := by
  intro i
  induction i using Nat.strongRecOn with
  | _ i ih =>
    intro j hi hij
    obtain ⟨o, e, hio, he, hb, hj⟩ := st.just i j hij
    have hlt := (st.dep i o hio e he hb).1
    have hs := hi o hio e he hb
    rcases hj with rfl | hj
    · exact hs
    · exact ih e.on hlt j (fun o' ho' => hc e.on o' hs ho') hj

/-! ### the last writer of a slot -/
def lastW (ops : Array Oper) (S : Nat → Bool) (t : Nat) : Nat → Option Nat
  | 0 => none
  | m + 1 => if S m = true ∧ dstOf ops m = some t then some m else lastW ops S t m
theorem lastW_congr {ops : Array Oper} {S S' : Nat → Bool} {t : Nat} : ∀ {m : Nat}, (∀ i, i < m → dstOf ops i = some t → S i = S' i) → lastW ops S t m = lastW ops S' t m := by
  intro m
  induction m with
  | zero => intro _; rfl
  | succ m ih =>
    intro h
    unfold lastW
    rw [ih fun i hi => h i (by omega)]
    by_cases hd : dstOf ops m = some t
    · rw [h m (by omega) hd]
    · rw [if_neg (fun x => hd x.2), if_neg (fun x => hd x.2)]
theorem lastW_mem {ops : Array Oper} {S : Nat → Bool} {t j : Nat} : ∀ {m : Nat}, lastW ops S t m = some j → S j = true ∧ dstOf ops j = some t ∧ j < m := by
  intro m
  induction m with
  | zero => intro h; cases h
  | succ m ih =>
    intro h
    unfold lastW at h
    split at h
    · rename_i hm
      injection h with h
      subst h
      exact ⟨hm.1, hm.2, by omega⟩
    · obtain ⟨h1, h2, h3⟩ := ih h
      exact ⟨h1, h2, by omega⟩
theorem lastW_at {ops : Array Oper} {S : Nat → Bool} {t j : Nat} : ∀ {m : Nat}, j < m → S j = true → dstOf ops j = some t → (∀ i, i < m → S i = true → dstOf ops i = some t → i ≤ j) → lastW ops S t m = some j := by
  intro m
  induction m with
  | zero => intro h; omega
  | succ m ih =>
    intro hj hs hd hmax
    unfold lastW
    by_cases h : S m = true ∧ dstOf ops m = some t
    · rw [if_pos h]
      have := hmax m (by omega) h.1 h.2
      congr 1; omega
    · rw [if_neg h]
      have : j ≠ m := fun e => by subst e; exact h ⟨hs, hd⟩
      exact ih (by omega) hs hd fun i hi => hmax i (by omega)
/-- the code that slot t has when these have been done: of the last one that writes it -/
def cur (ops : Array Oper) (e0 : Nat) (cd : Nat → Nat) (S : Nat → Bool) (t : Nat) : Nat := match lastW ops S t ops.size with | some j => cd j | none => gF e0 t
def ins (S : Nat → Bool) (j : Nat) : Nat → Bool := fun i => Nat.beq i j || S i
theorem ins_self {S : Nat → Bool} {j : Nat} : ins S j j = true := by simp [ins]
theorem ins_ne {S : Nat → Bool} {i j : Nat} (h : i ≠ j) : ins S j i = S i := by unfold ins; rw [show Nat.beq i j = false from by rw [beqN]; exact decide_eq_false h]; rfl
theorem cur_ins_ne {ops : Array Oper} {e0 : Nat} {cd : Nat → Nat} {S : Nat → Bool} {j t : Nat} (h : dstOf ops j ≠ some t) : cur ops e0 cd (ins S j) t = cur ops e0 cd S t := by
  unfold cur
  rw [lastW_congr (S' := S) fun i _ hd => ins_ne fun e => by subst e; exact h hd]
theorem cur_ins {ops : Array Oper} {e0 : Nat} {cd : Nat → Nat} {S : Nat → Bool} {j t : Nat} (hj : j < ops.size) (h : dstOf ops j = some t) (hmax : ∀ i, S i = true → dstOf ops i = some t → i ≤ j) : cur ops e0 cd (ins S j) t = cd j := by
  unfold cur
  rw [lastW_at hj ins_self h fun i _ hs hd => by
    by_cases e : i = j
    · omega
    · rw [ins_ne e] at hs; exact hmax i hs hd]
theorem cur_cd {ops : Array Oper} {e0 c : Nat} {cd : Nat → Nat} {S : Nat → Bool} {j t : Nat} (h : S j = false) : cur ops e0 (fun i => if i = j then c else cd i) S t = cur ops e0 cd S t := by
  unfold cur
  cases hl : lastW ops S t ops.size with
  | none => rfl
  | some i =>
    have := (lastW_mem hl).1
    have : i ≠ j := fun e => by subst e; rw [h] at this; cases this
    simp [this]
end Go.Ev
end
section
/- A region whose order is drawn, part 2: the evaluation, and that it is right. -/
set_option linter.all false
namespace Go.Ev
open Go Go.RowKit Go.Hub
variable {P : Program} {N : Nat} {pl : List Value}
variable {φ : Nat → Tr → Nat → Prop} {pb : Kb} {pn pn' : Nat → Option Obj} {G G' : Gh} {h h' : Tr} {nx nm : Nat} {w w' : World}

/-! ### the relation over less, over more -/
theorem Rel.less (R : Rel P pb pn G h nx w) {h' : Tr} (hs : ∀ k, h'.get k = h.get k ∨ h'.get k = .none) : Rel P pb (fun _ => none) G h' nx w where
  obj k hg := by
    rcases hs k with e | e
    · rw [e]; exact R.obj k hg
    · rw [e]; trivial
  inj n1 n2 b s1 t1 z1 s2 t2 z2 g1 g2 m1 m2 := by
    have f : ∀ k, isBlk (h'.get k) = true → isBlk (h.get k) = true := fun k hk => by
      rcases hs k with e | e
      · rw [← e]; exact hk
      · rw [e] at hk; cases hk
    exact R.inj n1 n2 _ _ _ _ _ _ _ g1 g2 (f _ m1) (f _ m2)
  pb b o e := ⟨(R.pb b o e).1, fun k s t z g => by
    rcases hs k with e2 | e2
    · rw [e2]; exact (R.pb b o e).2 k s t z g
    · rw [e2]; rfl⟩
  pn k o e := by cases e
  fresh := R.fresh
  bd := R.bd
  nxb := R.nxb
  non k hk := by
    rcases hs k with e | e
    · rw [e]; exact R.non k hk
    · exact e
  oo := R.oo
theorem Rel.pnw (R : Rel P pb pn' G h nx w) (hp : ∀ k o, pn k = some o → pn' k = some o) : Rel P pb pn G h nx w :=
  ⟨R.obj, R.inj, R.pb, fun k o e => R.pn k o (hp k o e), R.fresh, R.bd, R.nxb, R.non, R.oo⟩
/-- all names that are not there yet -/
noncomputable def absent (G : Gh) (h : Tr) (nx : Nat) : Nat → Option Obj := fun k => match G k with | none => if k < nx then some (h.get k) else none | some _ => none
theorem Rel.absent (R : Rel P pb pn G h nx w) : Rel P pb (absent G h nx) G h nx w := by
  refine ⟨R.obj, R.inj, R.pb, fun k o e => ?_, R.fresh, R.bd, R.nxb, R.non, R.oo⟩
  unfold Ev.absent at e
  split at e
  · rename_i hg
    split at e
    · rename_i hlt
      injection e with e
      exact ⟨e, hg, hlt⟩
    · cases e
  · cases e
/-- an object by a new name that is not there yet -/
theorem Rel.ghost (R : Rel P pb pn G h nx w) {o : Obj} (hb : nx + 1 < 16777216) : Rel P pb pn G (h.set nx o) (nx + 1) w := by
  have hlt : nx < 1000000000 := Nat.lt_trans R.nxb (by decide)
  have hn : G nx = none := R.fresh nx (Nat.le_refl _)
  have ne : ∀ k, G k ≠ none → (h.set nx o).get k = h.get k := fun k hk => by
    rw [Tr.get_set _ _ _ hlt, if_neg fun e => by subst e; exact hk hn]
  refine ⟨fun k hg => ?_, fun n1 n2 b s1 t1 z1 s2 t2 z2 g1 g2 m1 m2 => ?_, fun b o' e => ⟨(R.pb b o' e).1, fun k s t z g => ?_⟩, fun k o' e => ?_, fun k hk => R.fresh k (by omega), R.bd, hb, fun k hk => by rw [Tr.get_set _ _ _ hlt, if_neg (by omega)]; exact R.non k (by omega), R.oo⟩
  · rw [ne k hg]; exact R.obj k hg
  · rw [ne n1 (by rw [g1]; simp)] at m1
    rw [ne n2 (by rw [g2]; simp)] at m2
    exact R.inj n1 n2 _ _ _ _ _ _ _ g1 g2 m1 m2
  · rw [ne k (by rw [g]; simp)]; exact (R.pb b o' e).2 k s t z g
  · obtain ⟨h1, h2, h3⟩ := R.pn k o' e
    rw [Tr.get_set _ _ _ hlt, if_neg (by omega)]
    exact ⟨h1, h2, by omega⟩
/-- it is there now: a value -/
theorem Rel.realV (R : Rel P pb pn G h nx w) {v : Value} {o : Obj} (hn : G nm = none) (hlt : nm < nx) (hp : pn nm = none) (ho : h.get nm = o) (hi : isBlk o = false) (hO : ORel P (Gup G nm (.val v)) nm w o) : Rel P pb pn (Gup G nm (.val v)) h nx w := by
  have ne : ∀ k b s t z, Gup G nm (.val v) k = some (.blk b s t z) → k ≠ nm ∧ G k = some (.blk b s t z) := fun k b s t z e => by
    have : k ≠ nm := fun e2 => by subst e2; rw [Gup.at] at e; cases e
    rw [Gup.ne G _ this] at e; exact ⟨this, e⟩
  refine ⟨fun k hg => ?_, fun n1 n2 b s1 t1 z1 s2 t2 z2 g1 g2 m1 m2 => R.inj n1 n2 _ _ _ _ _ _ _ (ne _ _ _ _ _ g1).2 (ne _ _ _ _ _ g2).2 m1 m2, fun b o' e => ⟨(R.pb b o' e).1, fun k s t z g => (R.pb b o' e).2 k s t z (ne _ _ _ _ _ g).2⟩, fun k o' e => ?_, fun k hk => ?_, fun k b s t z e => R.bd k b s t z (ne _ _ _ _ _ e).2, R.nxb, R.non, R.oo⟩
  · by_cases hk : k = nm
    · subst hk; rw [ho]; exact hO
    · rw [Gup.ne G _ hk] at hg
      exact (R.obj k hg).mono (Gup.le hn) fun _ _ _ _ _ _ => rfl
  · have hk : k ≠ nm := fun e2 => by subst e2; rw [hp] at e; cases e
    rw [Gup.ne G _ hk]
    exact R.pn k o' e
  · rw [Gup.ne G _ (by omega)]; exact R.fresh k hk
/-- .. a block -/
theorem Rel.realB (R : Rel P pb pn G h nx w) {s tot sz : Nat} {o : Obj} {O : Go.Obj} (hn : G nm = none) (hlt : nm < nx) (hp : pn nm = none) (ho : h.get nm = o) (hw : w'.heap = w.heap.push O) (hi : isMut o = true) (hO : ORel P (Gup G nm (.blk w.heap.size s tot sz)) nm w' o) (lk : Lk w w' := by exact ⟨rfl, rfl⟩) :
    Rel P pb pn (Gup G nm (.blk w.heap.size s tot sz)) h nx w' := by
  have old : ∀ b, b < w.heap.size → w'.heap[b]? = w.heap[b]? := fun b hb => by rw [hw, Array.getElem?_push, if_neg (by omega)]
  have cs : ∀ k b s' t' z', Gup G nm (.blk w.heap.size s tot sz) k = some (.blk b s' t' z') → (k = nm ∧ b = w.heap.size) ∨ (k ≠ nm ∧ G k = some (.blk b s' t' z') ∧ b < w.heap.size) := fun k b s' t' z' e => by
    by_cases hk : k = nm
    · subst hk
      rw [Gup.at] at e
      injection e with e
      injection e with e1
      exact .inl ⟨rfl, e1.symm⟩
    · rw [Gup.ne G _ hk] at e
      exact .inr ⟨hk, e, R.bd _ _ _ _ _ e⟩
  have pbl : ∀ b o', pb.blk b = some o' → b < w.heap.size := fun b o' e => by
    have h1 := (R.pb b o' e).1
    rcases Nat.lt_or_ge b w.heap.size with h | h
    · exact h
    · rw [Array.getElem?_eq_none h] at h1; cases h1
  refine ⟨fun k hg => ?_, fun n1 n2 b s1 t1 z1 s2 t2 z2 g1 g2 m1 m2 => ?_, fun b o' e => ⟨by rw [old b (pbl b o' e)]; exact (R.pb b o' e).1, fun k s t z g => ?_⟩, fun k o' e => ?_, fun k hk => ?_, fun k b s t z e => ?_, R.nxb, R.non, lk.to R.oo⟩
  · by_cases hk : k = nm
    · subst hk; rw [ho]; exact hO
    · rw [Gup.ne G _ hk] at hg
      exact (R.obj k hg).mono (Gup.le hn) fun b s t z e _ => old b (R.bd _ _ _ _ _ e)
  · rcases cs _ _ _ _ _ g1 with ⟨a1, e1⟩ | ⟨a1, g1, e1⟩ <;> rcases cs _ _ _ _ _ g2 with ⟨a2, e2⟩ | ⟨a2, g2, e2⟩
    · rw [a1, a2]
    · omega
    · omega
    · exact R.inj n1 n2 _ _ _ _ _ _ _ g1 g2 m1 m2
  · rcases cs _ _ _ _ _ g with ⟨a1, e1⟩ | ⟨a1, g1, e1⟩
    · have := pbl b o' e; omega
    · exact (R.pb b o' e).2 k _ _ _ g1
  · have hk : k ≠ nm := fun e2 => by subst e2; rw [hp] at e; cases e
    rw [Gup.ne G _ hk]
    exact R.pn k o' e
  · rw [Gup.ne G _ (by omega)]; exact R.fresh k hk
  · rw [hw, Array.size_push]
    rcases cs _ _ _ _ _ e with ⟨a1, e1⟩ | ⟨a1, g1, e1⟩ <;> omega

/-! ### two objects, two results alike -/
noncomputable def n2 (a b c d : Nat) : Bool := Bool.rec false (Nat.beq c d) (Nat.beq a b)
noncomputable def objEq : Obj → Obj → Bool
  | .imm n c, .imm m d => n2 n m c d
  | .tup n c, .tup m d => n2 n m c d
  | .txt n c, .txt m d => n2 n m c d
  | .clo f a b c d, .clo f' a' b' c' d' => Bool.rec false (Bool.rec false (n2 c c' d d') (n2 a a' b b')) (Nat.beq f f')
  | .row cl fz el n c, .row cl' fz' el' n' c' => Bool.rec false (Bool.rec false (n2 n n' c c') (n2 fz fz' el el')) (cond cl cl' (not cl'))
  | .map r k n c, .map r' k' n' c' => Bool.rec false (Bool.rec false (n2 n n' c c') (Nat.beq k k')) (cond r r' (not r'))
  | _, _ => false
theorem n2_ok {a b c d : Nat} (h : n2 a b c d = true) : a = b ∧ c = d := by
  obtain ⟨h1, h2⟩ := and2 h
  exact ⟨Nat.eq_of_beq_eq_true h1, Nat.eq_of_beq_eq_true h2⟩
theorem objEq_ok : ∀ {o o' : Obj}, objEq o o' = true → o = o' := by
  intro o o' h
  unfold objEq at h
  split at h
  · obtain ⟨e1, e2⟩ := n2_ok h; rw [e1, e2]
  · obtain ⟨e1, e2⟩ := n2_ok h; rw [e1, e2]
  · obtain ⟨e1, e2⟩ := n2_ok h; rw [e1, e2]
  · obtain ⟨h1, h2, h3⟩ := and3 h
    obtain ⟨e2, e3⟩ := n2_ok h2
    obtain ⟨e4, e5⟩ := n2_ok h3
    rw [Nat.eq_of_beq_eq_true h1, e2, e3, e4, e5]
  · rename_i cl fz el n c cl' fz' el' n' c'
    obtain ⟨h1, h2, h3⟩ := and3 h
    obtain ⟨e2, e3⟩ := n2_ok h2
    obtain ⟨e4, e5⟩ := n2_ok h3
    have : cl = cl' := by cases cl <;> cases cl' <;> first | rfl | cases h1
    rw [this, e2, e3, e4, e5]
  · rename_i r k n c r' k' n' c'
    obtain ⟨h1, h2, h3⟩ := and3 h
    obtain ⟨e2, e3⟩ := n2_ok h3
    have : r = r' := by cases r <;> cases r' <;> first | rfl | cases h1
    rw [this, Nat.eq_of_beq_eq_true h2, e2, e3]
  · cases h
noncomputable def resEq : Res → Res → Bool
  | .val c, .val d => Nat.beq c d
  | .imm t o, .imm t' o' => Bool.rec false (objEq o o') (Nat.beq t t')
  | .blk t o, .blk t' o' => Bool.rec false (objEq o o') (Nat.beq t t')
  | _, _ => false
theorem resEq_ok : ∀ {r r' : Res}, resEq r r' = true → r = r' := by
  intro r r' h
  unfold resEq at h
  split at h
  · rw [Nat.eq_of_beq_eq_true h]
  · obtain ⟨h1, h2⟩ := and2 h
    rw [Nat.eq_of_beq_eq_true h1, objEq_ok h2]
  · obtain ⟨h1, h2⟩ := and2 h
    rw [Nat.eq_of_beq_eq_true h1, objEq_ok h2]
  · cases h

/-! ### the evaluation -/
/-- an operation that was evaluated: its number, how, over which frame, and what it came to -/
structure Opn where
  i : Nat
  f : V
  e : Nat
  r : Res
/-- what was read may still be read: it tells the same -/
noncomputable def again (m : Nat) (h : Tr) : List Opn → Bool
  | [] => true
  | q :: l => Bool.rec (Bool.rec false (again m h l) (resEq (q.f q.e h) q.r)) (again m h l) (Nat.testBit m q.i)
theorem again_ok {m : Nat} {h : Tr} : ∀ {l : List Opn}, again m h l = true → ∀ q ∈ l, m.testBit q.i = true ∨ q.f q.e h = q.r := by
  intro l
  induction l with
  | nil => intro _ q h; cases h
  | cons a r ih =>
    intro hb q hq
    unfold again at hb
    cases h1 : Nat.testBit m a.i with
    | true =>
      rw [h1] at hb
      rcases List.mem_cons.1 hq with rfl | hq
      · exact .inl h1
      · exact ih hb q hq
    | false =>
      rw [h1] at hb
      obtain ⟨h2, h3⟩ := and2 hb
      rcases List.mem_cons.1 hq with rfl | hq
      · exact .inr (resEq_ok h2)
      · exact ih h3 q hq
section
variable (ent : Oper → Ent) (ops : Array Oper) (ms : List Nat) (N : Nat)
/-- the plan: each number once, behind what comes ahead; an effect is ahead of all that stands behind it -/
def isEff (i : Nat) : Bool := match ops[i]? with | some o => (match ent o with | .x _ => true | _ => false) | none => false
noncomputable def planOk : List Nat → Nat → Bool
  | [], dn => Nat.beq dn (Nat.sub (Nat.pow 2 ops.size) 1)
  | i :: r, dn => Bool.rec false (Bool.rec false (Bool.rec false (planOk r (Nat.lor dn (Nat.pow 2 i))) (cond (isEff ent ops i) (r.all fun j => Nat.testBit (ms.getD j 0) i) true)) (Nat.beq (Nat.land (ms.getD i 0) dn) (ms.getD i 0))) (cond (Nat.testBit dn i) false (Nat.blt i ops.size))
abbrev DX := List Opn → CL → Nat → Tr → Nat → K → T
noncomputable def dNil : DX := fun _ _ e h nx k => k e h nx
noncomputable def dK (ih : DX) (op : List Opn) (cl : CL) (k : K) : K := fun e h nx => ih op cl e h nx k
/-- its code is one -/
noncomputable def rLt (nx : Nat) (r : Res) : Bool := Res.rec false (fun c => Nat.blt c 79228162514264337593543950336) (fun t _ => Nat.blt (Nat.add t (Nat.mul 32 nx)) 79228162514264337593543950336) (fun t _ => Nat.blt (Nat.add t (Nat.mul 32 nx)) 79228162514264337593543950336) r
noncomputable def dV (i : Nat) (ih : DX) (op : List Opn) (cl : CL) (e : Nat) (h : Tr) (nx : Nat) (k : K) (f : V) (d : Nat) : T := chk (Nat.blt d N) (chk (rLt nx (f e h)) (resT d e h nx (dK ih (⟨i, f, e, f e h⟩ :: op) cl k) (f e h)))
noncomputable def dE0 (m : Nat) (ih : DX) (op : List Opn) (cl : CL) (e : Nat) (k : K) : KV := fun _ h nx => chk (again m h op) (ih op cl e h nx k)
noncomputable def dE1 (m : Nat) (ih : DX) (op : List Opn) (cl : CL) (e : Nat) (k : K) (d : Nat) : KV := fun c h nx => chk (again m h op) (go (sF e d c) h nx (dK ih op cl k))
noncomputable def dE (m : Nat) (ih : DX) (op : List Opn) (cl : CL) (e : Nat) (h : Tr) (nx : Nat) (k : K) (f : CV) (d : Option Nat) : T :=
  Option.rec (f cl e h nx (dE0 m ih op cl e k)) (fun d => chk (Nat.blt d N) (f cl e h nx (dE1 m ih op cl e k d))) d
noncomputable def dO (i : Nat) (ih : DX) (op : List Opn) (cl : CL) (e : Nat) (h : Tr) (nx : Nat) (k : K) (o : Oper) : T :=
  Ent.rec T.fail (fun f => Option.rec T.fail (dV N i ih op cl e h nx k f) o.dst) (fun f => dE N (ms.getD i 0) ih op cl e h nx k f o.dst) (ent o)
noncomputable def dCons (i : Nat) (_ : List Nat) (ih : DX) : DX := fun op cl e h nx k => Option.rec T.fail (dO ent ms N i ih op cl e h nx k) ops[i]?
noncomputable def dX (l : List Nat) : DX := List.rec dNil (dCons ent ops ms N) l
theorem dX_cons (i : Nat) (r : List Nat) (op : List Opn) (cl : CL) (e : Nat) (h : Tr) (nx : Nat) (k : K) : dX ent ops ms N (i :: r) op cl e h nx k = Option.rec T.fail (dO ent ms N i (dX ent ops ms N r) op cl e h nx k) ops[i]? := rfl
end

/-! ### it is right -/
/-- slots that an operation names -/
def uses (ops : Array Oper) (o : Oper) (t : Nat) : Prop := Operand.tmp t ∈ looks ops o
theorem names_of {ops : Array Oper} {o : Oper} {t : Nat} (h : uses ops o t) : names ops o t = true := by
  unfold names
  have : (looks ops o).any (isTmp t) = true := List.any_eq_true.2 ⟨_, h, by simp [isTmp]⟩
  rw [this]; rfl
theorem names_dst {ops : Array Oper} {o : Oper} {t : Nat} (h : o.dst = some t) : names ops o t = true := by
  unfold names
  cases hb : (looks ops o).any (isTmp t) with
  | true => rfl
  | false => simp [h]
structure Inv (P : Program) (N : Nat) (pl : List Value) (ent : Oper → Ent) (ops : Array Oper) (ms : List Nat) (φ : Nat → Tr → Nat → Prop) (cl : CL) (pb : Kb) (pn : Nat → Option Obj) (e0 : Nat) (k : K) (L : Nat → Bool) (a : Act) (w : World)
    (D : Nat → Bool) (r : List Nat) (dn : Nat) (op : List Opn) (e : Nat) (h : Tr) (nx : Nat) (G : Gh) (cd nmO : Nat → Nat) (al : Nat → Bool) : Prop where
  R : Rel P pb pn G h nx w
  pool : Pool pl G
  size : a.tmps.size = N
  defers : a.defers = []
  LD : ∀ j, L j = true → D j = true
  Dlt : ∀ j, D j = true → j < ops.size
  Lcl : Cl ops L
  Dcl : Cl ops D
  eff : ∀ j, D j = true → isEff ent ops j = true → L j = true
  dnE : ∀ j, D j = dn.testBit j
  plan : planOk ent ops ms r dn = true
  run : Tall φ (dX ent ops ms N r op cl e h nx k)
  env : ∀ t, gF e t = cur ops e0 cd D t
  slot : ∀ t, VRel G (cur ops e0 cd L t) (a.tmps.getD t undef)
  opn : ∀ j, D j = true → L j = false → ∃ o f d, ops[j]? = some o ∧ ent o = .v f ∧ o.dst = some d ∧ d < N ∧ ∃ q ∈ op, q.i = j ∧ q.f = f ∧ (∃ hj : Tr, (∀ x, hj.get x = h.get x ∨ hj.get x = .none) ∧ f q.e hj = q.r) ∧
    (∀ t, uses ops o t → gF q.e t = cur ops e0 cd (fun i => (ms.getD j 0).testBit i) t) ∧
    (match q.r with | .no => False | .val c => al j = false ∧ cd j = c | .imm t ob | .blk t ob => al j = true ∧ pn (nmO j) = none ∧ nmO j < nx ∧ G (nmO j) = none ∧ h.get (nmO j) = ob ∧ cd j = t + 32 * nmO j)
  nmI : ∀ i j, i ≠ j → D i = true → L i = false → al i = true → D j = true → L j = false → al j = true → nmO i ≠ nmO j
variable {ent : Oper → Ent} {ops : Array Oper} {ms : List Nat} {cl : CL} {e0 : Nat} {k : K} {L D : Nat → Bool} {a : Act} {r : List Nat} {dn : Nat} {op : List Opn} {e : Nat} {cd nmO : Nat → Nat} {al : Nat → Bool}
/-- of who writes a slot that j names, all that have been done are ahead of j -/
theorem Stat.ahead (st : Stat ops ms) {S : Nat → Bool} (hc : Cl ops S) {j : Nat} {o : Oper} (hj : ops[j]? = some o) (hn : S j = false) {t : Nat} (ht : names ops o t = true) {i : Nat} (hi : S i = true) (hd : dstOf ops i = some t) : (ms.getD j 0).testBit i = true := by
  have hne : j ≠ i := fun e => by subst e; rw [hn] at hi; cases hi
  rcases st.tmp j i o t hne hj hd ht with h | h
  · exact h
  · have := st.anc hc i j (fun o' ho' => hc i o' hi ho') h
    rw [hn] at this; cases this
theorem Stat.src (st : Stat ops ms) {S : Nat → Bool} (hc : Cl ops S) {j : Nat} {o : Oper} (hj : ops[j]? = some o) (hn : S j = false) (hr : ∀ e ∈ o.after.toList, Region.binds .any e = true → S e.on = true) {t : Nat} (ht : names ops o t = true) :
    cur ops e0 cd S t = cur ops e0 cd (fun i => (ms.getD j 0).testBit i) t := by
  unfold cur
  rw [lastW_congr (S' := fun i => (ms.getD j 0).testBit i) fun i _ hd => by
    cases hs : S i with
    | true => exact (st.ahead hc hj hn ht hs hd).symm
    | false =>
      cases hb : (ms.getD j 0).testBit i with
      | false => rfl
      | true =>
        have := st.anc hc j i (fun o' ho' => by rw [hj] at ho'; injection ho' with ho'; subst ho'; exact hr) hb
        rw [hs] at this; cases this]
theorem Stat.max (st : Stat ops ms) {S : Nat → Bool} (hc : Cl ops S) {j : Nat} {o : Oper} (hj : ops[j]? = some o) (hn : S j = false) {d : Nat} (hd : o.dst = some d) : ∀ i, S i = true → dstOf ops i = some d → i ≤ j := fun i hi hdi =>
  Nat.le_of_lt (st.lt j i (st.ahead hc hj hn (names_dst hd) hi hdi))
theorem Cl.ins {S : Nat → Bool} (hc : Cl ops S) {j : Nat} {o : Oper} (hj : ops[j]? = some o) (hr : ∀ e ∈ o.after.toList, Region.binds .any e = true → S e.on = true) : Cl ops (ins S j) := by
  intro i o' hi ho' e he hb
  by_cases hij : i = j
  · subst hij
    rw [hj] at ho'
    injection ho' with ho'
    subst ho'
    have := hr e he hb
    unfold Ev.ins; rw [this]; simp
  · rw [ins_ne hij] at hi
    have := hc i o' hi ho' e he hb
    unfold Ev.ins; rw [this]; simp
/-- which slots show what, behind one more -/
theorem slot_ins (st : Stat ops ms) {S : Nat → Bool} (hc : Cl ops S) {j : Nat} {o : Oper} (hj : ops[j]? = some o) (hn : S j = false) {d : Nat} (hd : o.dst = some d) (hdN : d < N) (hs : a.tmps.size = N) {v : Value} (hg : Gle G G') (hv : VRel G' (cd j) v)
    (sl : ∀ t, VRel G (cur ops e0 cd S t) (a.tmps.getD t undef)) : ∀ t, VRel G' (cur ops e0 cd (ins S j) t) ((a.put (some d) v).tmps.getD t undef) := by
  intro t
  have hlt : j < ops.size := by
    rcases Nat.lt_or_ge j ops.size with h | h
    · exact h
    · rw [Array.getElem?_eq_none h] at hj; cases hj
  have hdst : dstOf ops j = some d := by unfold dstOf; rw [hj]; exact hd
  by_cases h : d = t
  · subst h
    rw [cur_ins hlt hdst (st.max hc hj hn hd)]
    simp only [Act.put, Array.getD_eq_getD_getElem?, Array.getElem?_setIfInBounds, if_true, hs, hdN, Option.getD_some]
    exact hv
  · rw [cur_ins_ne (by rw [hdst]; intro e; injection e with e; exact h e)]
    have := (sl t).mono hg
    simp only [Act.put, Array.getD_eq_getD_getElem?, Array.getElem?_setIfInBounds, if_neg h] at this ⊢
    exact this
/-- one that has been evaluated is carried out -/
theorem Inv.stepV (st : Stat ops ms) (hE : ∀ o, EntS P N pl ops o (ent o)) (I : Inv P N pl ent ops ms φ cl pb pn e0 k L a w D r dn op e h nx G cd nmO al) {j : Nat} (hD : D j = true) (hL : L j = false) {o : Oper} (hj : ops[j]? = some o)
    (hr : ∀ e ∈ o.after.toList, Region.binds .any e = true → L e.on = true) :
    ∃ v w' G', (if Region.wanted o (yielded ops a.tmps) then execOp a.eval o else pure (.value undef)).run P w = .ok (.value v) w' ∧ Gle G G' ∧ Inv P N pl ent ops ms φ cl pb pn e0 k (ins L j) (a.put o.dst v) w' D r dn op e h nx G' cd nmO al := by
  obtain ⟨o', f, d, ho', hent, hd, hdN, q, hq, hqi, hqf, ⟨hh, hsub, hfr⟩, hsrc, hres⟩ := I.opn j hD hL
  rw [hj] at ho'
  injection ho' with ho'
  subst ho'
  have hVG := hE o
  rw [hent] at hVG
  have EO : EOp pl G N (fun x => cO pl x q.e) a (looks ops o) := ⟨I.pool, I.size, I.defers, fun x hx => by
    cases x with
    | tmp t =>
      show VRel G (gF q.e t) (a.tmps.getD t undef)
      rw [hsrc t hx, ← st.src I.Lcl hj hL hr (names_of hx)]
      exact I.slot t
    | const v => exact cVal_ok I.pool v
    | global g => exact .unk _
    | func f => exact ixF_ok pl 0 (fun j v h => by rw [Nat.zero_add]; exact I.pool.2 j v h) (by have := I.pool.1; omega)⟩
  have hROk := hVG pb (fun _ => none) G hh nx w q.e a (I.R.less hsub) EO
  rw [hfr] at hROk
  have Llt : ∀ i, ins L j i = true → D i = true := fun i hi => by
    by_cases hij : i = j
    · subst hij; exact hD
    · rw [ins_ne hij] at hi; exact I.LD i hi
  have rest : ∀ {w' : World} {G' : Gh} {v : Value}, Gle G G' → Rel P pb pn G' h nx w' → VRel G' (cd j) v → (∀ i, i ≠ j → D i = true → L i = false → al i = true → G' (nmO i) = none) →
      Inv P N pl ent ops ms φ cl pb pn e0 k (ins L j) (a.put o.dst v) w' D r dn op e h nx G' cd nmO al := fun {w' G' v} hg R' hv hno => by
    rw [hd]
    refine ⟨R', I.pool.mono hg, by simp [Act.put, I.size], I.defers, Llt, I.Dlt, I.Lcl.ins hj hr, I.Dcl, fun i hi hef => ?_, I.dnE, I.plan, I.run, I.env, slot_ins st I.Lcl hj hL hd hdN I.size hg hv I.slot, fun i hi hl => ?_, fun i i' hne h1 h2 h3 h4 h5 h6 => ?_⟩
    · have := I.eff i hi hef
      unfold ins; rw [this]; simp
    · have hij : i ≠ j := fun e => by subst e; rw [ins_self] at hl; cases hl
      rw [ins_ne hij] at hl
      obtain ⟨o', f', d', g1, g2, g3, g4, q', g5, g6, g7, g8, g9, g10⟩ := I.opn i hi hl
      refine ⟨o', f', d', g1, g2, g3, g4, q', g5, g6, g7, g8, g9, ?_⟩
      revert g10
      cases q'.r with
      | no => exact id
      | val c => exact id
      | imm t ob => exact fun ⟨a1, a2, a3, a4, a5, a6⟩ => ⟨a1, a2, a3, hno i hij hi hl a1, a5, a6⟩
      | blk t ob => exact fun ⟨a1, a2, a3, a4, a5, a6⟩ => ⟨a1, a2, a3, hno i hij hi hl a1, a5, a6⟩
    · have f1 : ∀ x, ins L j x = false → L x = false := fun x hx => by
        unfold ins at hx
        simp at hx
        exact hx.2
      exact I.nmI i i' hne h1 (f1 i h2) h3 h4 (f1 i' h5) h6
  have oldN : ∀ i, i ≠ j → D i = true → L i = false → al i = true → G (nmO i) = none := fun i _ hi hl ha => by
    obtain ⟨o', f', d', g1, g2, g3, g4, q', g5, g6, g7, g8, g9, g10⟩ := I.opn i hi hl
    revert g10
    cases q'.r with
    | no => exact fun h => h.elim
    | val c => exact fun h => by rw [h.1] at ha; cases ha
    | imm t ob => exact fun h => h.2.2.2.1
    | blk t ob => exact fun h => h.2.2.2.1
  cases hq2 : q.r with
  | no => rw [hq2] at hres; exact hres.elim
  | val c =>
    rw [hq2] at hres hROk
    obtain ⟨v, h1, h2⟩ := hROk
    exact ⟨v, w, G, h1, Gle.rfl, rest Gle.rfl I.R (by rw [hres.2]; exact h2) oldN⟩
  | imm t ob =>
    rw [hq2] at hres hROk
    obtain ⟨a1, a2, a3, a4, a5, a6⟩ := hres
    obtain ⟨v, h1, h2, h3⟩ := hROk
    have hg : Gle G (Gup G (nmO j) (.val v)) := Gup.le a4
    have g3 := h3 _ (nmO j) hg (Gup.at _ _ _) (Nat.lt_trans a3 I.R.nxb)
    refine ⟨v, w, _, h1, hg, rest hg (I.R.realV a4 a3 a2 a5 h2 (g3.2 w)) (by rw [a6]; exact g3.1) fun i hij hi hl ha => ?_⟩
    · rw [Gup.ne G _ (I.nmI i j hij hi hl ha hD hL a1)]
      exact oldN i hij hi hl ha
  | blk t ob =>
    rw [hq2] at hres hROk
    obtain ⟨a1, a2, a3, a4, a5, a6⟩ := hres
    obtain ⟨v, O, w2, s', tot, sz, h1, ⟨hp, hlk⟩, h2, h3⟩ := hROk
    have hg : Gle G (Gup G (nmO j) (.blk w.heap.size s' tot sz)) := Gup.le a4
    have g3 := h3 _ (nmO j) w2 hg (Gup.at _ _ _) (Nat.lt_trans a3 I.R.nxb) (by rw [hp]; simp)
    refine ⟨v, w2, _, h1, hg, rest hg (I.R.realB (O := O) a4 a3 a2 a5 hp h2 g3.2 hlk) (by rw [a6]; exact g3.1) fun i hij hi hl ha => ?_⟩
    · rw [Gup.ne G _ (I.nmI i j hij hi hl ha hD hL a1)]
      exact oldN i hij hi hl ha

theorem planOk_cons {i : Nat} {r : List Nat} {dn : Nat} (h : planOk ent ops ms (i :: r) dn = true) : dn.testBit i = false ∧ i < ops.size ∧ (∀ j, (ms.getD i 0).testBit j = true → dn.testBit j = true) ∧ (isEff ent ops i = true → ∀ j ∈ r, (ms.getD j 0).testBit i = true) ∧ planOk ent ops ms r (Nat.lor dn (Nat.pow 2 i)) = true := by
  unfold planOk at h
  obtain ⟨h1, h⟩ := and2 h
  obtain ⟨h2, h⟩ := and2 h
  obtain ⟨h3, h4⟩ := and2 h
  refine ⟨?_, ?_, fun j hj => ?_, fun he j hj => ?_, h4⟩
  · cases hb : Nat.testBit dn i with
    | false => rfl
    | true => rw [hb] at h1; cases h1
  · cases hb : Nat.testBit dn i with
    | false => rw [hb] at h1; exact blt_ok h1
    | true => rw [hb] at h1; cases h1
  · have h2 : Nat.land (ms.getD i 0) dn = ms.getD i 0 := Nat.eq_of_beq_eq_true h2
    have h2 : (ms.getD i 0) &&& dn = ms.getD i 0 := h2
    rw [← h2, Nat.testBit_and] at hj
    simp at hj
    exact hj.2
  · rw [he] at h3
    simp only [cond_true] at h3
    exact List.all_eq_true.1 h3 j hj
theorem planOk_all : ∀ {r : List Nat} {dn : Nat}, planOk ent ops ms r dn = true → ∀ i, i < ops.size → dn.testBit i = true ∨ i ∈ r := by
  intro r
  induction r with
  | nil =>
    intro dn h i hi
    unfold planOk at h
    have : dn = 2 ^ ops.size - 1 := Nat.eq_of_beq_eq_true h
    rw [this, Nat.testBit_two_pow_sub_one]
    exact .inl (decide_eq_true hi)
  | cons j r ih =>
    intro dn h i hi
    obtain ⟨h1, h2, h3, h4, h5⟩ := planOk_cons h
    rcases ih h5 i hi with h | h
    · have e1 : Nat.lor dn (Nat.pow 2 j) = dn ||| 2 ^ j := rfl
      rw [e1, Nat.testBit_or, Nat.testBit_two_pow] at h
      simp at h
      rcases h with h | h
      · exact .inl h
      · exact .inr (by rw [h]; simp)
    · exact .inr (by simp [h])
theorem dn_ins {dn j : Nat} {D : Nat → Bool} (h : ∀ i, D i = dn.testBit i) (i : Nat) : ins D j i = (Nat.lor dn (Nat.pow 2 j)).testBit i := by
  have e1 : Nat.lor dn (Nat.pow 2 j) = dn ||| 2 ^ j := rfl
  rw [e1, Nat.testBit_or, Nat.testBit_two_pow]
  unfold ins
  rw [h i, beqN]
  by_cases hij : i = j
  · subst hij; simp
  · simp [hij, Ne.symm hij]
/-- the frame's slots behind one more -/
theorem env_ins (st : Stat ops ms) (hc : Cl ops D) {j : Nat} {o : Oper} (hj : ops[j]? = some o) (hn : D j = false) {d c : Nat} (hd : o.dst = some d) (hcl : c < 2 ^ 96) (henv : ∀ t, gF e t = cur ops e0 cd D t) :
    ∀ t, gF (sF e d c) t = cur ops e0 (fun i => if i = j then c else cd i) (ins D j) t := by
  intro t
  have hlt : j < ops.size := by
    rcases Nat.lt_or_ge j ops.size with h | h
    · exact h
    · rw [Array.getElem?_eq_none h] at hj; cases hj
  have hdst : dstOf ops j = some d := by unfold dstOf; rw [hj]; exact hd
  rw [gF_sF hcl]
  by_cases h : d = t
  · subst h
    rw [if_pos rfl, cur_ins hlt hdst (st.max hc hj hn hd)]
    simp
  · rw [if_neg h, cur_ins_ne (by rw [hdst]; intro e; injection e with e; exact h e), cur_cd hn]
    exact henv t
theorem env_none {j : Nat} {o : Oper} (hj : ops[j]? = some o) (hn : D j = false) {c : Nat} (hd : o.dst = none) (henv : ∀ t, gF e t = cur ops e0 cd D t) :
    ∀ t, gF e t = cur ops e0 (fun i => if i = j then c else cd i) (ins D j) t := by
  intro t
  have hdst : dstOf ops j = none := by unfold dstOf; rw [hj]; exact hd
  rw [cur_ins_ne (by rw [hdst]; intro e; cases e), cur_cd hn]
  exact henv t
/-- one more is evaluated -/
theorem Inv.eval (st : Stat ops ms) {i : Nat} (I : Inv P N pl ent ops ms φ cl pb pn e0 k L a w D (i :: r) dn op e h nx G cd nmO al) (hne : isEff ent ops i = false) :
    ∃ D' dn' op' e' h' nx' cd' nmO' al', (∀ j, D j = true → D' j = true) ∧ Inv P N pl ent ops ms φ cl pb pn e0 k L a w D' r dn' op' e' h' nx' G cd' nmO' al' := by
  obtain ⟨p1, p2, p3, p4, p5⟩ := planOk_cons I.plan
  have hDi : D i = false := by rw [I.dnE]; exact p1
  have hLi : L i = false := by
    cases hl : L i with
    | false => rfl
    | true => have := I.LD i hl; rw [hDi] at this; cases this
  have H := I.run
  rw [dX_cons] at H
  cases hi : ops[i]? with
  | none => rw [hi] at H; exact H.elim
  | some o =>
    rw [hi] at H
    have H : Tall φ (dO ent ms N i (dX ent ops ms N r) op cl e h nx k o) := H
    unfold dO at H
    cases hent : ent o with
    | no => rw [hent] at H; exact H.elim
    | x f => simp [isEff, hi, hent] at hne
    | v f =>
      rw [hent] at H
      have H : Tall φ (Option.rec T.fail (dV N i (dX ent ops ms N r) op cl e h nx k f) o.dst) := H
      cases hd : o.dst with
      | none => rw [hd] at H; exact H.elim
      | some d =>
        rw [hd] at H
        obtain ⟨hdN, H⟩ := Tall.chk H
        have hdN := blt_ok hdN
        obtain ⟨hrl, H⟩ := Tall.chk H
        have hdeps : ∀ e ∈ o.after.toList, Region.binds .any e = true → D e.on = true := fun e he hb => by
          rw [I.dnE]; exact p3 _ (st.dep i o hi e he hb).2
        have nobit : ∀ j, D j = true → (ms.getD j 0).testBit i = false := fun j hj => by
          cases hb : (ms.getD j 0).testBit i with
          | false => rfl
          | true =>
            have := st.anc I.Dcl j i (fun o' ho' => I.Dcl j o' hj ho') hb
            rw [hDi] at this; cases this
        have main : ∀ (c nx' : Nat) (h' : Tr) (b : Bool), c < 2 ^ 96 → nx ≤ nx' → Rel P pb pn G h' nx' w → (∀ x, h.get x = h'.get x ∨ h.get x = .none) → (∀ x, x < nx → h'.get x = h.get x) → Tall φ (dX ent ops ms N r (⟨i, f, e, f e h⟩ :: op) cl (sF e d c) h' nx' k) →
            (match f e h with | .no => False | .val c' => b = false ∧ c = c' | .imm t ob | .blk t ob => b = true ∧ nx < nx' ∧ h'.get nx = ob ∧ c = t + 32 * nx) →
            ∃ D' dn' op' e' h' nx' cd' nmO' al', (∀ j, D j = true → D' j = true) ∧ Inv P N pl ent ops ms φ cl pb pn e0 k L a w D' r dn' op' e' h' nx' G cd' nmO' al' := by
          intro c nx' h' b hc hnx R' hsub hold H' hres
          refine ⟨ins D i, _, ⟨i, f, e, f e h⟩ :: op, _, h', nx', fun x => if x = i then c else cd x, fun x => if x = i then nx else nmO x, fun x => if x = i then b else al x, fun j hj => by unfold ins; rw [hj]; simp, R', I.pool, I.size, I.defers, fun j hj => by have := I.LD j hj; unfold ins; rw [this]; simp, fun j hj => ?_, I.Lcl, I.Dcl.ins hi hdeps, fun j hj hef => ?_, fun j => dn_ins I.dnE j, p5, H', env_ins st I.Dcl hi hDi hd hc I.env, fun t => ?_, fun j hj hl => ?_, fun x y hxy h1 h2 h3 h4 h5 h6 => ?_⟩
          · by_cases hji : j = i
            · subst hji; exact p2
            · rw [ins_ne hji] at hj; exact I.Dlt j hj
          · by_cases hji : j = i
            · subst hji; simp [isEff, hi, hent] at hef
            · rw [ins_ne hji] at hj; exact I.eff j hj hef
          · rw [cur_cd hLi]; exact I.slot t
          · by_cases hji : j = i
            · subst hji
              refine ⟨o, f, d, hi, hent, hd, hdN, _, List.mem_cons_self, rfl, rfl, ⟨h, hsub, rfl⟩, fun t ht => ?_, ?_⟩
              · show gF e t = _
                rw [I.env t, st.src I.Dcl hi hDi hdeps (names_of ht), cur_cd]
                cases hb : (ms.getD j 0).testBit j with
                | false => rfl
                | true => have := st.lt j j hb; omega
              · show (match f e h with | .no => False | .val c' => _ | .imm t ob => _ | .blk t ob => _)
                revert hres
                cases f e h with
                | no => exact id
                | val c' => simp
                | imm t ob =>
                  rintro ⟨h1, h2, h3, h4⟩
                  simp only [if_true]
                  refine ⟨h1, ?_, h2, I.R.fresh nx (Nat.le_refl _), h3, h4⟩
                  cases hp : pn nx with
                  | none => rfl
                  | some x => have := (I.R.pn _ _ hp).2.2; omega
                | blk t ob =>
                  rintro ⟨h1, h2, h3, h4⟩
                  simp only [if_true]
                  refine ⟨h1, ?_, h2, I.R.fresh nx (Nat.le_refl _), h3, h4⟩
                  cases hp : pn nx with
                  | none => rfl
                  | some x => have := (I.R.pn _ _ hp).2.2; omega
            · rw [ins_ne hji] at hj
              obtain ⟨o', f', d', g1, g2, g3, g4, q', g5, g6, g7, ⟨hh, g8, g8'⟩, g9, g10⟩ := I.opn j hj hl
              refine ⟨o', f', d', g1, g2, g3, g4, q', List.mem_cons_of_mem _ g5, g6, g7, ⟨hh, fun x => ?_, g8'⟩, fun t ht => ?_, ?_⟩
              · rcases g8 x with e1 | e1
                · rcases hsub x with e2 | e2
                  · exact .inl (e1.trans e2)
                  · exact .inr (e1.trans e2)
                · exact .inr e1
              · rw [cur_cd (nobit j hj)]; exact g9 t ht
              · revert g10
                simp only [if_neg hji]
                cases q'.r with
                | no => exact id
                | val c' => exact id
                | imm t ob => exact fun ⟨a1, a2, a3, a4, a5, a6⟩ => ⟨a1, a2, by omega, a4, by rw [hold _ a3]; exact a5, a6⟩
                | blk t ob => exact fun ⟨a1, a2, a3, a4, a5, a6⟩ => ⟨a1, a2, by omega, a4, by rw [hold _ a3]; exact a5, a6⟩
          · have ltn : ∀ j, j ≠ i → ins D i j = true → L j = false → al j = true → nmO j < nx := fun j hji hj hl ha => by
              rw [ins_ne hji] at hj
              obtain ⟨o', f', d', g1, g2, g3, g4, q', g5, g6, g7, g8, g9, g10⟩ := I.opn j hj hl
              revert g10
              cases q'.r with
              | no => exact fun h => h.elim
              | val c => exact fun h => by rw [h.1] at ha; cases ha
              | imm t ob => exact fun h => h.2.2.1
              | blk t ob => exact fun h => h.2.2.1
            by_cases hx : x = i
            · have hy : y ≠ i := fun e => hxy (hx.trans e.symm)
              simp only [if_pos hx, if_neg hy] at h6 ⊢
              have := ltn y hy h4 h5 h6
              omega
            · by_cases hy : y = i
              · simp only [if_pos hy, if_neg hx] at h3 ⊢
                have := ltn x hx h1 h2 h3
                omega
              · simp only [if_neg hx, if_neg hy] at h3 h6 ⊢
                rw [ins_ne hx] at h1
                rw [ins_ne hy] at h4
                exact I.nmI x y hxy h1 h2 h3 h4 h5 h6
        have e96 : (79228162514264337593543950336 : Nat) = 2 ^ 96 := by decide
        cases hq : f e h with
        | no => rw [hq] at H; exact H.elim
        | val c =>
          rw [hq] at H hrl
          have hc : c < 79228162514264337593543950336 := blt_ok hrl
          rw [e96] at hc
          exact main c nx h false hc (Nat.le_refl _) I.R (fun x => .inl rfl) (fun x _ => rfl) (by rw [hq]; exact H) (by rw [hq]; exact ⟨rfl, rfl⟩)
        | imm t ob =>
          rw [hq] at H hrl
          obtain ⟨hnx, H⟩ := Tall.chk H
          have hc : t + 32 * nx < 79228162514264337593543950336 := blt_ok hrl
          rw [e96] at hc
          have hlt : nx < 1000000000 := Nat.lt_trans I.R.nxb (by decide)
          exact main (t + 32 * nx) (nx + 1) (h.set nx ob) true hc (by omega) (I.R.ghost (nxOk hnx)) (fun x => by
            by_cases hx : x = nx
            · subst hx; exact .inr (I.R.non x (Nat.le_refl _))
            · rw [Tr.get_set _ _ _ hlt, if_neg hx]; exact .inl rfl) (fun x hx => by rw [Tr.get_set _ _ _ hlt, if_neg (by omega)]) (by rw [hq]; exact H) (by rw [hq]; exact ⟨rfl, by omega, by rw [Tr.get_set _ _ _ hlt, if_pos rfl], rfl⟩)
        | blk t ob =>
          rw [hq] at H hrl
          obtain ⟨hnx, H⟩ := Tall.chk H
          have hc : t + 32 * nx < 79228162514264337593543950336 := blt_ok hrl
          rw [e96] at hc
          have hlt : nx < 1000000000 := Nat.lt_trans I.R.nxb (by decide)
          exact main (t + 32 * nx) (nx + 1) (h.set nx ob) true hc (by omega) (I.R.ghost (nxOk hnx)) (fun x => by
            by_cases hx : x = nx
            · subst hx; exact .inr (I.R.non x (Nat.le_refl _))
            · rw [Tr.get_set _ _ _ hlt, if_neg hx]; exact .inl rfl) (fun x hx => by rw [Tr.get_set _ _ _ hlt, if_neg (by omega)]) (by rw [hq]; exact H) (by rw [hq]; exact ⟨rfl, by omega, by rw [Tr.get_set _ _ _ hlt, if_pos rfl], rfl⟩)
/-- the next effect is carried out -/
theorem Inv.stepE (st : Stat ops ms) (hE : ∀ o, EntS P N pl ops o (ent o)) (C : CLS P pl cl) {i : Nat} (I : Inv P N pl ent ops ms φ cl pb pn e0 k L a w D (i :: r) dn op e h nx G cd nmO al) (hef : isEff ent ops i = true) {o : Oper} (hi : ops[i]? = some o)
    (hr : ∀ e ∈ o.after.toList, Region.binds .any e = true → L e.on = true) {K' : Act → World → Prop} {Q : Exit → Act → World → Prop}
    (HK : ∀ a' w' D' r' dn' op' e' h' nx' G' cd' nmO' al', Gle G G' → Inv P N pl ent ops ms φ cl pb pn e0 k (ins L i) a' w' D' r' dn' op' e' h' nx' G' cd' nmO' al' → K' a' w') :
    if Region.wanted o (yielded ops a.tmps) then o.wp P a w K' Q else K' (a.put o.dst undef) w := by
  obtain ⟨p1, p2, p3, p4, p5⟩ := planOk_cons I.plan
  have hDi : D i = false := by rw [I.dnE]; exact p1
  have hLi : L i = false := by
    cases hl : L i with
    | false => rfl
    | true => have := I.LD i hl; rw [hDi] at this; cases this
  have hdeps : ∀ e ∈ o.after.toList, Region.binds .any e = true → D e.on = true := fun e he hb => I.LD _ (hr e he hb)
  have nobit : ∀ j, D j = true → (ms.getD j 0).testBit i = false := fun j hj => by
    cases hb : (ms.getD j 0).testBit i with
    | false => rfl
    | true =>
      have := st.anc I.Dcl j i (fun o' ho' => I.Dcl j o' hj ho') hb
      rw [hDi] at this; cases this
  have H := I.run
  rw [dX_cons, hi] at H
  have H : Tall φ (dO ent ms N i (dX ent ops ms N r) op cl e h nx k o) := H
  unfold dO at H
  have hEo := hE o
  cases hent : ent o with
  | no => simp [isEff, hi, hent] at hef
  | v f => simp [isEff, hi, hent] at hef
  | x f =>
    rw [hent] at H hEo
    have H : Tall φ (dE N (ms.getD i 0) (dX ent ops ms N r) op cl e h nx k f o.dst) := H
    have EO : EOp pl G N (fun x => cO pl x e) a (looks ops o) := ⟨I.pool, I.size, I.defers, fun x hx => by
      cases x with
      | tmp t =>
        show VRel G (gF e t) (a.tmps.getD t undef)
        rw [I.env t, st.src I.Dcl hi hDi hdeps (names_of hx), ← st.src I.Lcl hi hLi hr (names_of hx)]
        exact I.slot t
      | const v => exact cVal_ok I.pool v
      | global g => exact .unk _
      | func f => exact ixF_ok pl 0 (fun j v h => by rw [Nat.zero_add]; exact I.pool.2 j v h) (by have := I.pool.1; omega)⟩
    -- what stands behind the effect
    have next : ∀ (G' : Gh) (h' : Tr) (nx' : Nat) (w' : World) (c : Nat) (v : Value) (e' : Nat), Gle G G' → Rel P pb (absent G h nx) G' h' nx' w' → VRel G' c v → again (ms.getD i 0) h' op = true →
        Tall φ (dX ent ops ms N r op cl e' h' nx' k) → (∀ t, gF e' t = cur ops e0 (fun x => if x = i then c else cd x) (ins D i) t) →
        (∀ t, VRel G' (cur ops e0 (fun x => if x = i then c else cd x) (ins L i) t) ((a.put o.dst v).tmps.getD t undef)) → (a.put o.dst v).tmps.size = N → (a.put o.dst v).defers = [] → K' (a.put o.dst v) w' := by
      intro G' h' nx' w' c v e' hg R' hv hag H' henv hsl hsz hdf
      have pnI : ∀ k o', pn k = some o' → absent G h nx k = some o' := fun k o' e1 => by
        obtain ⟨a1, a2, a3⟩ := I.R.pn k o' e1
        unfold absent
        rw [a2]
        simp [a3, a1]
      refine HK _ _ (ins D i) r (Nat.lor dn (Nat.pow 2 i)) op e' h' nx' G' (fun x => if x = i then c else cd x) nmO al hg ⟨R'.pnw pnI, I.pool.mono hg, hsz, hdf, fun j hj => ?_, fun j hj => ?_, I.Lcl.ins hi hr, I.Dcl.ins hi hdeps, fun j hj hefj => ?_, fun j => dn_ins I.dnE j, p5, H', henv, hsl, fun j hj hl => ?_, fun x y hxy h1 h2 h3 h4 h5 h6 => ?_⟩
      · by_cases hji : j = i
        · subst hji; exact ins_self
        · rw [ins_ne hji] at hj ⊢; exact I.LD j hj
      · by_cases hji : j = i
        · subst hji; exact p2
        · rw [ins_ne hji] at hj; exact I.Dlt j hj
      · by_cases hji : j = i
        · subst hji; exact ins_self
        · rw [ins_ne hji] at hj ⊢; exact I.eff j hj hefj
      · have hji : j ≠ i := fun e => by subst e; rw [ins_self] at hl; cases hl
        rw [ins_ne hji] at hj hl
        obtain ⟨o', f', d', g1, g2, g3, g4, q', g5, g6, g7, ⟨hh, g8, g8'⟩, g9, g10⟩ := I.opn j hj hl
        have hread : f' q'.e h' = q'.r := by
          rcases again_ok hag q' g5 with hb | hb
          · rw [g6] at hb
            have := st.anc I.Lcl i j (fun o2 ho2 => by rw [hi] at ho2; injection ho2 with ho2; subst ho2; exact hr) hb
            rw [hl] at this; cases this
          · rw [g7] at hb; exact hb
        refine ⟨o', f', d', g1, g2, g3, g4, q', g5, g6, g7, ⟨h', fun x => .inl rfl, hread⟩, fun t ht => ?_, ?_⟩
        · rw [cur_cd (nobit j hj)]; exact g9 t ht
        · have ab : ∀ m, G m = none → m < nx → absent G h nx m = some (h.get m) := fun m h1 h2 => by
            unfold absent; rw [h1]; simp [h2]
          revert g10
          simp only [if_neg hji]
          cases q'.r with
          | no => exact id
          | val c' => exact id
          | imm t ob =>
            rintro ⟨a1, a2, a3, a4, a5, a6⟩
            obtain ⟨b1, b2, b3⟩ := R'.pn _ _ (ab _ a4 a3)
            exact ⟨a1, a2, b3, b2, by rw [b1]; exact a5, a6⟩
          | blk t ob =>
            rintro ⟨a1, a2, a3, a4, a5, a6⟩
            obtain ⟨b1, b2, b3⟩ := R'.pn _ _ (ab _ a4 a3)
            exact ⟨a1, a2, b3, b2, by rw [b1]; exact a5, a6⟩
      · have hx : x ≠ i := fun e => by subst e; rw [ins_self] at h2; cases h2
        have hy : y ≠ i := fun e => by subst e; rw [ins_self] at h5; cases h5
        rw [ins_ne hx] at h1 h2
        rw [ins_ne hy] at h4 h5
        exact I.nmI x y hxy h1 h2 h3 h4 h5 h6
    cases hd : o.dst with
    | none =>
      rw [hd] at H
      have := hEo cl φ pb (absent G h nx) G h nx w e a _ K' Q C I.R.absent EO H (fun G' h' nx' w' c v hg R' hv H' => by
        obtain ⟨hag, H'⟩ := Tall.chk H'
        refine next G' h' nx' w' c v e hg R' hv hag H' (env_none hi hDi hd I.env) (fun t => ?_) (by rw [hd]; exact I.size) (by rw [hd]; exact I.defers)
        rw [hd, cur_ins_ne (by unfold dstOf; rw [hi]; show o.dst ≠ _; rw [hd]; intro e; cases e), cur_cd hLi]
        exact (I.slot t).mono hg)
      rw [hd] at this
      exact this
    | some d =>
      rw [hd] at H
      obtain ⟨hdN, H⟩ := Tall.chk H
      have hdN := blt_ok hdN
      have := hEo cl φ pb (absent G h nx) G h nx w e a _ K' Q C I.R.absent EO H (fun G' h' nx' w' c v hg R' hv H' => by
        obtain ⟨hag, H'⟩ := Tall.chk H'
        refine next G' h' nx' w' c v (sF e d c) hg R' hv hag H' (env_ins st I.Dcl hi hDi hd hv.lt I.env) (fun t => ?_) (by rw [hd]; simp [Act.put, I.size]) (by rw [hd]; exact I.defers)
        rw [hd]
        refine slot_ins (cd := fun x => if x = i then c else cd x) st I.Lcl hi hLi hd hdN I.size hg (by simpa using hv) (fun t => ?_) t
        rw [cur_cd hLi]
        exact I.slot t)
      rw [hd] at this
      exact this
/-- evaluate up to the next effect -/
theorem Inv.settle (st : Stat ops ms) : ∀ (r : List Nat) {D : Nat → Bool} {dn : Nat} {op : List Opn} {e : Nat} {h : Tr} {nx : Nat} {cd nmO : Nat → Nat} {al : Nat → Bool}, Inv P N pl ent ops ms φ cl pb pn e0 k L a w D r dn op e h nx G cd nmO al →
    ∃ D' r' dn' op' e' h' nx' cd' nmO' al', Inv P N pl ent ops ms φ cl pb pn e0 k L a w D' r' dn' op' e' h' nx' G cd' nmO' al' ∧ (r' = [] ∨ ∃ i s, r' = i :: s ∧ isEff ent ops i = true) := by
  intro r
  induction r with
  | nil => intro D dn op e h nx cd nmO al I; exact ⟨_, _, _, _, _, _, _, _, _, _, I, .inl rfl⟩
  | cons i r ih =>
    intro D dn op e h nx cd nmO al I
    cases hef : isEff ent ops i with
    | true => exact ⟨_, _, _, _, _, _, _, _, _, _, I, .inr ⟨i, r, rfl, hef⟩⟩
    | false =>
      obtain ⟨D', dn', op', e', h', nx', cd', nmO', al', _, I'⟩ := I.eval st hef
      exact ih I'

/-! ### all orders -/
def cnt (L : Nat → Bool) : Nat → Nat
  | 0 => 0
  | m + 1 => cnt L m + (if L m = true then 0 else 1)
theorem cnt_zero {L : Nat → Bool} : ∀ {m : Nat}, cnt L m = 0 → ∀ j, j < m → L j = true := by
  intro m
  induction m with
  | zero => intro _ j hj; omega
  | succ m ih =>
    intro h j hj
    unfold cnt at h
    by_cases hm : L m = true
    · rw [if_pos hm] at h
      by_cases hjm : j = m
      · subst hjm; exact hm
      · exact ih (by omega) j (by omega)
    · rw [if_neg hm] at h; omega
theorem cnt_ins {L : Nat → Bool} {j : Nat} (hl : L j = false) : ∀ {m : Nat}, cnt (ins L j) m + (if j < m then 1 else 0) = cnt L m := by
  intro m
  induction m with
  | zero => rfl
  | succ m ih =>
    show cnt (ins L j) m + (if ins L j m = true then 0 else 1) + (if j < m + 1 then 1 else 0) = cnt L m + (if L m = true then 0 else 1)
    by_cases hjm : j = m
    · subst hjm
      rw [if_pos ins_self, hl]
      rw [if_neg (Nat.lt_irrefl _)] at ih
      rw [if_pos (Nat.lt_succ_self _)]
      simp
      omega
    · rw [ins_ne (Ne.symm hjm)]
      by_cases hlt : j < m
      · have e1 : (if j < m + 1 then 1 else 0 : Nat) = 1 := if_pos (by omega)
        rw [if_pos hlt] at ih
        rw [e1]
        omega
      · have e1 : (if j < m + 1 then 1 else 0 : Nat) = 0 := if_neg (by omega)
        rw [if_neg hlt] at ih
        rw [e1]
        omega
theorem Inv.fin {Q : Exit → Act → World → Prop} (I : Inv P N pl ent ops ms φ cl pb pn e0 k L a w D r dn op e h nx G cd nmO al) (hall : ∀ j, j < ops.size → L j = true) (HK : KS P N pl φ pb pn G k (Q .normal)) : Q .normal a w := by
  have hr : r = [] := by
    cases r with
    | nil => rfl
    | cons i s =>
      obtain ⟨p1, p2, _⟩ := planOk_cons I.plan
      have := I.LD i (hall i p2)
      rw [I.dnE, p1] at this; cases this
  subst hr
  refine HK G h nx w e a Gle.rfl I.R ⟨I.pool, I.size, I.defers, fun t => ?_⟩ I.run
  rw [I.env t]
  have : cur ops e0 cd D t = cur ops e0 cd L t := by
    unfold cur
    rw [lastW_congr (S' := L) fun i hi _ => by rw [hall i hi]; exact I.LD i (hall i hi)]
  rw [this]
  exact I.slot t
theorem dr_any (st : Stat ops ms) (hE : ∀ o, EntS P N pl ops o (ent o)) (C : CLS P pl cl) {Q : Exit → Act → World → Prop} : ∀ (fuel : Nat) (listed : Array Bool) (G : Gh) (a : Act) (w : World) (D : Nat → Bool) (r : List Nat) (dn : Nat) (op : List Opn) (e : Nat) (h : Tr) (nx : Nat) (cd nmO : Nat → Nat) (al : Nat → Bool),
    listed.size = ops.size → cnt (fun j => listed.getD j false) ops.size ≤ fuel → Inv P N pl ent ops ms φ cl pb pn e0 k (fun j => listed.getD j false) a w D r dn op e h nx G cd nmO al → KS P N pl φ pb pn G k (Q .normal) → wpAny P .any ops Q fuel listed a w := by
  have rdy : ∀ {listed : Array Bool} {i : Nat}, listed.size = ops.size → (i ∈ Region.ready .any ops listed ↔ i < ops.size ∧ listed.getD i false = false ∧ ∀ o, ops[i]? = some o → ∀ e ∈ o.after.toList, Region.binds .any e = true → listed.getD e.on false = true) := by
    intro listed i hs
    unfold Region.ready
    rw [List.mem_filter, List.mem_range]
    constructor
    · rintro ⟨h1, h2⟩
      simp only [Bool.and_eq_true, Bool.not_eq_true'] at h2
      refine ⟨h1, ?_, fun o ho e he hb => ?_⟩
      · have := h2.1
        rw [Array.getD_eq_getD_getElem?, Array.getElem?_eq_getElem (by omega)] at this ⊢
        exact this
      · have h3 := h2.2
        rw [ho] at h3
        simp only [Option.map_some, Option.getD_some, Array.all_eq_true_iff_forall_mem] at h3
        have := h3 e (by simpa using he)
        rw [hb] at this
        simpa using this
    · rintro ⟨h1, h2, h3⟩
      refine ⟨h1, ?_⟩
      simp only [Bool.and_eq_true, Bool.not_eq_true']
      refine ⟨?_, ?_⟩
      · rw [Array.getD_eq_getD_getElem?, Array.getElem?_eq_getElem (by omega)] at h2 ⊢
        exact h2
      · rw [Array.getElem?_eq_getElem h1]
        simp only [Option.map_some, Option.getD_some, Array.all_eq_true_iff_forall_mem]
        intro e he
        cases hb : Region.binds .any e with
        | false => rfl
        | true => simpa using h3 _ (Array.getElem?_eq_getElem h1) e (by simpa using he) hb
  have all_of : ∀ {listed : Array Bool}, listed.size = ops.size → Region.ready .any ops listed = [] → ∀ j, j < ops.size → listed.getD j false = true := by
    intro listed hs he j
    induction j using Nat.strongRecOn with
    | _ j ih =>
      intro hj
      cases hl : listed.getD j false with
      | true => rfl
      | false =>
        have : j ∈ Region.ready .any ops listed := (rdy hs).2 ⟨hj, hl, fun o ho e hem hb => by
          have := (st.dep j o ho e hem hb).1
          exact ih e.on this (by omega)⟩
        rw [he] at this; cases this
  have setL : ∀ {listed : Array Bool} {i : Nat}, listed.size = ops.size → i < ops.size → (fun j => (listed.setIfInBounds i true).getD j false) = ins (fun j => listed.getD j false) i := by
    intro listed i hs hi
    funext j
    by_cases hj : j = i
    · subst hj
      rw [ins_self]
      simp [Array.getD_eq_getD_getElem?, Array.getElem?_setIfInBounds, hs, hi]
    · rw [ins_ne hj]
      simp [Array.getD_eq_getD_getElem?, Array.getElem?_setIfInBounds, Ne.symm hj]
  intro fuel
  induction fuel with
  | zero =>
    intro listed G a w D r dn op e h nx cd nmO al hs hc I HK
    have hall := cnt_zero (Nat.le_zero.1 hc)
    refine ⟨?_, I.fin hall HK⟩
    cases hr : Region.ready .any ops listed with
    | nil => rfl
    | cons i s =>
      have := (rdy hs).1 (by rw [hr]; simp : i ∈ Region.ready .any ops listed)
      rw [hall i this.1] at this
      exact absurd this.2.1 (by simp)
  | succ fuel ih =>
    intro listed G a w D r dn op e h nx cd nmO al hs hc I HK
    refine ⟨fun he => I.fin (all_of hs he) HK, fun i hi => ?_⟩
    obtain ⟨h1, h2, h3⟩ := (rdy hs).1 hi
    have hio : ops[i]? = some ops[i] := Array.getElem?_eq_getElem h1
    have hdeps := h3 _ hio
    have hcn : cnt (fun j => (listed.setIfInBounds i true).getD j false) ops.size ≤ fuel := by
      rw [setL hs h1]
      have := cnt_ins (L := fun j => listed.getD j false) (j := i) h2 (m := ops.size)
      rw [if_pos h1] at this
      omega
    have hs' : (listed.setIfInBounds i true).size = ops.size := by simpa using hs
    unfold wpOp
    rw [hio]
    -- evaluated already: carried out
    have doV : ∀ {D : Nat → Bool} {r : List Nat} {dn : Nat} {op : List Opn} {e : Nat} {h : Tr} {nx : Nat} {cd nmO : Nat → Nat} {al : Nat → Bool}, Inv P N pl ent ops ms φ cl pb pn e0 k (fun j => listed.getD j false) a w D r dn op e h nx G cd nmO al → D i = true →
        (match some ops[i] with | none => wpAny P .any ops Q fuel (listed.setIfInBounds i true) a w | some o => if Region.wanted o (yielded ops a.tmps) = true then o.wp P a w (wpAny P .any ops Q fuel (listed.setIfInBounds i true)) Q ∨ (o.asks P a w ∧ LetsOut Q) else wpAny P .any ops Q fuel (listed.setIfInBounds i true) (a.put o.dst undef) w) := by
      intro D r dn op e h nx cd nmO al I hD
      obtain ⟨v, w', G', hrun, hGG, I'⟩ := I.stepV st hE hD h2 hio hdeps
      rw [← setL hs h1] at I'
      have again' := ih _ G' _ _ _ _ _ _ _ _ _ _ _ _ hs' hcn I' (HK.mono hGG)
      simp only
      split
      · rename_i hw
        rw [if_pos hw] at hrun
        left
        unfold Oper.wp
        rw [hrun]
        exact again'
      · rename_i hw
        rw [if_neg hw] at hrun
        have hrun : (Result.ok (Next.value undef) w : Result Next) = .ok (.value v) w' := hrun
        injection hrun with e1 e2
        injection e1 with e1
        subst e1 e2
        exact again'
    obtain ⟨D', r', dn', op', e', h', nx', cd', nmO', al', I', hr'⟩ := I.settle st r
    cases hD : D' i with
    | true => exact doV I' hD
    | false =>
      rcases hr' with rfl | ⟨E, s, rfl, hef⟩
      · rcases planOk_all I'.plan i h1 with hb | hb
        · rw [I'.dnE, hb] at hD; cases hD
        · cases hb
      · have hiE : i = E := by
          rcases planOk_all I'.plan i h1 with hb | hb
          · rw [I'.dnE, hb] at hD; cases hD
          · rcases List.mem_cons.1 hb with hb | hb
            · exact hb
            · obtain ⟨p1, p2, p3, p4, p5⟩ := planOk_cons I'.plan
              have hbit := p4 hef i hb
              have := st.anc I'.Lcl i E (fun o' ho' => by rw [hio] at ho'; injection ho' with ho'; subst ho'; exact hdeps) hbit
              have := I'.LD E this
              rw [I'.dnE, p1] at this; cases this
        subst hiE
        have := I'.stepE st hE C hef hio hdeps (K' := wpAny P .any ops Q fuel (listed.setIfInBounds i true)) (Q := Q) (fun a2 w2 D2 r2 dn2 op2 e2 h2 nx2 G2 cd2 nmO2 al2 hg I2 => by
          rw [← setL hs h1] at I2
          exact ih _ G2 _ _ _ _ _ _ _ _ _ _ _ _ hs' hcn I2 (HK.mono hg))
        simp only
        split
        · rename_i hw; rw [if_pos hw] at this; exact .inl this
        · rename_i hw; rw [if_neg hw] at this; exact this
end Go.Ev
end
section
/- A call that only reads: its world is told as before; all ways of going on that come to one code are one. -/
set_option linter.all false
namespace Go.Ev
open Go
variable {P : Program} {φ : Nat → Tr → Nat → Prop} {pb : Kb} {pn : Nat → Option Obj} {G G' : Gh} {h h' : Tr} {nx nx' nm : Nat} {w w' : World}
/-- an object, for reading alone -/
noncomputable def frzO (o : Obj) : Obj := Obj.rec .none (fun _ _ el n c => .rom el n c) .rom .imm .tup .txt .clo (fun _ k n c => .map true k n c) (fun _ _ => .none) (fun _ _ _ _ _ => .none) o
noncomputable def Tr.frz (t : Tr) : Tr := Tr.rec .leaf (fun _ o _ l r => .node l (frzO o) r) t
theorem Tr.get_frz : ∀ (t : Tr) (n : Nat), t.frz.get n = frzO (t.get n) := by
  intro t
  induction t with
  | leaf => intro n; rfl
  | node l o r ihl ihr =>
    intro n
    have e : (Tr.node l o r).frz = .node l.frz (frzO o) r.frz := rfl
    rw [e]
    cases n with
    | zero => rfl
    | succ m =>
      rw [Tr.get_succ, Tr.get_succ]
      by_cases h : m % 2 = 0
      · rw [if_pos h, if_pos h, ihl]
      · rw [if_neg h, if_neg h, ihr]
theorem ORel.frz {o : Obj} (h : ORel P G nm w o) : ORel P G nm w (frzO o) := by
  cases o with
  | row cl fz el n c =>
    obtain ⟨b, s, tot, sz, cs, lo, hi, h1, h2, h3, h4, h5, h6, h7, h8⟩ := h
    exact ⟨b, s, tot, sz, cs, _, h1, h2, h3, h4, h7, h8⟩
  | sit => trivial
  | mit => trivial
  | none => trivial
  | rom => exact h
  | imm => exact h
  | tup => exact h
  | txt => exact h
  | clo => exact h
  | map => exact h
theorem frz_mut (o : Obj) : isMut (frzO o) = false := by cases o <;> rfl
theorem frz_blk {o : Obj} (h : isBlk (frzO o) = true) : isBlk o = true := by cases o <;> first | rfl | cases h
open Classical in
/-- all blocks of before stay as they are -/
noncomputable def pbF (w : World) : Kb := ⟨fun b => w.heap[b]?, w.os, w.output⟩
theorem Rel.frz (R : Rel P pb pn G h nx w) : Rel P (pbF w) (fun _ => none) G h.frz nx w := by
  refine ⟨fun k hg => by rw [Tr.get_frz]; exact (R.obj k hg).frz, fun n1 n2 b s1 t1 z1 s2 t2 z2 g1 g2 m1 m2 => ?_, fun b o e => ⟨e, fun k s t z g => ?_⟩, (fun k o e => by cases e), R.fresh, R.bd, R.nxb, fun k hk => by rw [Tr.get_frz, R.non k hk]; rfl, rfl, rfl⟩
  · rw [Tr.get_frz] at m1 m2
    exact R.inj n1 n2 _ _ _ _ _ _ _ g1 g2 (frz_blk m1) (frz_blk m2)
  · rw [Tr.get_frz]; exact frz_mut _
/-- what the blocks of before are told of, they are told of still -/
theorem Rel.back (R : Rel P pb pn G h nx w) (R' : Rel P (pbF w) (fun _ => none) G' h' nx' w') : Rel P pb pn G h nx w' := by
  have hs : w.heap.size ≤ w'.heap.size := by
    rcases Nat.eq_zero_or_pos w.heap.size with h0 | h0
    · omega
    · have hb : w.heap.size - 1 < w.heap.size := by omega
      have := (R'.pb (w.heap.size - 1) w.heap[w.heap.size - 1] (by show w.heap[w.heap.size - 1]? = _; rw [Array.getElem?_eq_getElem hb])).1
      have := (Array.getElem?_eq_some_iff.1 this).1
      omega
  have same : ∀ b, b < w.heap.size → w'.heap[b]? = w.heap[b]? := fun b hb => by
    have := (R'.pb b w.heap[b] (by show w.heap[b]? = _; rw [Array.getElem?_eq_getElem hb])).1
    rw [this, Array.getElem?_eq_getElem hb]
  refine ⟨fun k hg => (R.obj k hg).mono Gle.rfl fun b s t z e _ => same b (R.bd _ _ _ _ _ e), R.inj, fun b o e => ⟨?_, (R.pb b o e).2⟩, R.pn, R.fresh, fun k b s t z e => Nat.lt_of_lt_of_le (R.bd k b s t z e) hs, R.nxb, R.non, Lk.to (w := w) ⟨R'.oo.1, R'.oo.2⟩ R.oo⟩
  have h1 := (R.pb b o e).1
  have hb : b < w.heap.size := by
    rcases Nat.lt_or_ge b w.heap.size with h | h
    · exact h
    · rw [Array.getElem?_eq_none h] at h1; cases h1
  rw [same b hb]; exact h1
/-- the one code that a result comes to (0: none) -/
noncomputable def allC (n : Nat) (f : Nat → Nat) : Nat := Nat.rec (f 0) (fun m ih => Bool.rec 0 ih (Nat.beq (f m) (f 0))) n
noncomputable def codeOf (t : T) : Nat := T.rec (fun c _ _ => c) (fun n _ ih => allC n ih) 0 t
theorem allC_ok {f : Nat → Nat} : ∀ n, allC n f ≠ 0 → allC n f = f 0 ∧ ∀ i, i < n → f i = f 0 := by
  intro n
  induction n with
  | zero => intro _; exact ⟨rfl, fun i hi => absurd hi (Nat.not_lt_zero _)⟩
  | succ m ih =>
    intro h
    have e : allC (m + 1) f = Bool.rec 0 (allC m f) (Nat.beq (f m) (f 0)) := rfl
    rw [e] at h ⊢
    cases hb : Nat.beq (f m) (f 0) with
    | false => rw [hb] at h; exact absurd rfl h
    | true =>
      rw [hb] at h
      obtain ⟨h1, h2⟩ := ih h
      refine ⟨h1, fun i hi => ?_⟩
      rcases Nat.lt_or_ge i m with q | q
      · exact h2 i q
      · have : i = m := by omega
        subst this
        exact Nat.eq_of_beq_eq_true hb
theorem codeOf_ok : ∀ (t : T), codeOf t ≠ 0 → Tall (fun c _ _ => c = codeOf t) t := by
  intro t
  induction t with
  | done c h nx => intro _; rfl
  | fail => intro h; exact absurd rfl h
  | ask n k ih =>
    intro h i hi
    have e : codeOf (.ask n k) = allC n fun i => codeOf (k i) := rfl
    rw [e] at h ⊢
    obtain ⟨h1, h2⟩ := allC_ok n h
    have h3 := h2 i hi
    rw [h1] at h ⊢
    rw [← h3] at h ⊢
    exact ih i h
/-- a code that names nothing -/
noncomputable def isPl (c : Nat) : Bool := Bool.rec (Bool.rec (Nat.beq c 4) true (Nat.beq (Nat.mod c 32) 2)) true (Nat.beq (Nat.mod c 32) 1)
theorem VRel.pl {c : Nat} {v : Value} (h : VRel G c v) (hc : isPl c = true) (G' : Gh) : VRel G' c v := by
  unfold isPl at hc
  cases h1 : Nat.beq (Nat.mod c 32) 1
  · rw [h1] at hc
    cases h2 : Nat.beq (Nat.mod c 32) 2
    · rw [h2] at hc
      have : c = 4 := Nat.eq_of_beq_eq_true hc
      subst this
      obtain ⟨rfl, _⟩ := h.inv_nilp rfl
      exact .nilp
    · obtain ⟨k, n, rfl, rfl, hr⟩ := h.inv_int (Nat.eq_of_beq_eq_true h2)
      exact .int k n hr
  · obtain ⟨b, rfl, rfl⟩ := h.inv_bool (Nat.eq_of_beq_eq_true h1)
    exact .bool b
noncomputable def colT (f : Tr → KV → T) (h : Tr) (nx : Nat) (kv : KV) : T := (fun c => chk (isPl c) (chk (Nat.blt 0 c) (kv c h nx))) (codeOf (f h.frz fun c _ _ => .done c .leaf 0))
theorem colT_ok {pl : List Value} {cl : CL} (C : CLS P pl cl) : CLS P pl (fun f na e0 h nx kv => colT (fun h kv => cl f na e0 h nx kv) h nx kv) := by
  intro φ pb pn G h nx w f e0 args kv R RR hp ha hz H hk
  have H : Tall φ (chk (isPl (codeOf (cl f args.size e0 h.frz nx fun c _ _ => .done c .leaf 0))) (chk (Nat.blt 0 (codeOf (cl f args.size e0 h.frz nx fun c _ _ => .done c .leaf 0))) (kv (codeOf (cl f args.size e0 h.frz nx fun c _ _ => .done c .leaf 0)) h nx))) := H
  obtain ⟨hpl, H⟩ := Tall.chk H
  obtain ⟨hne, H⟩ := Tall.chk H
  have hne : 0 < codeOf (cl f args.size e0 h.frz nx fun c _ _ => .done c .leaf 0) := Nat.le_of_ble_eq_true hne
  refine C _ (pbF w) (fun _ => none) G h.frz nx w f e0 args _ R RR.frz hp ha hz (codeOf_ok _ (Nat.ne_of_gt hne)) (fun G' h' nx' w' c v g R' hv hc => ?_)
  have hc : c = codeOf (cl f args.size e0 h.frz nx fun c _ _ => .done c .leaf 0) := hc
  rw [← hc] at hpl H
  exact hk G h nx w' c v Gle.rfl (RR.back R') (hv.pl hpl G) H
end Go.Ev
end
section
/- The program's tables, looked up in a way that the kernel is quick at. -/
set_option linter.all false
namespace Go.Ev
open Go
variable {P : Program} {t : TypeId}
noncomputable def nth {α : Type} (l : List α) : Nat → Option α := List.rec (fun _ => none) (fun a _ ih n => Nat.rec (some a) (fun m _ => ih m) n) l
theorem nth_eq {α : Type} : ∀ (l : List α) (n : Nat), nth l n = l[n]? := by
  intro l
  induction l with
  | nil => intro n; rfl
  | cons a l ih =>
    intro n
    cases n with
    | zero => rfl
    | succ n => exact ih n
noncomputable def tyF (P : Program) (t : TypeId) : Option TypeInfo := nth P.types.toList t
theorem fI {i : TypeInfo} (h : tyF P t = some i) : P.info? t = some i := by
  unfold tyF at h
  rw [nth_eq, Array.getElem?_toList] at h
  unfold Tables.info?
  rw [if_pos (Array.getElem?_eq_some_iff.1 h).1]
  exact h
noncomputable def undI (P : Program) (i : TypeInfo) : Option TypeDesc := match i.desc with
  | .named _ u => (tyF P u).map (·.desc)
  | d => some d
noncomputable def undF (P : Program) (t : TypeId) : Option TypeDesc := Option.rec none (fun i => undI P i) (tyF P t)
theorem fU {d : TypeDesc} (h : undF P t = some d) : P.underlying t = some d := by
  unfold undF at h
  cases ht : tyF P t with
  | none => rw [ht] at h; cases h
  | some i =>
    rw [ht] at h
    have h : undI P i = some d := h
    have hi := fI ht
    unfold Program.underlying
    rw [hi]
    obtain ⟨desc, a1, a2, a3, a4, a5, a6, a7, a8, a9⟩ := i
    unfold undI at h
    cases desc with
    | named n u =>
      simp only at h ⊢
      cases hu : tyF P u with
      | none => rw [hu] at h; cases h
      | some j =>
        rw [hu] at h
        rw [fI hu]
        exact h
    | _ => exact h
noncomputable def szF (P : Program) (t : Nat) : Option Nat := Option.rec none (fun i => some i.size) (tyF P t)
noncomputable def zerF (P : Program) (t : Nat) : Option Value := Option.rec none (fun i => i.zero) (tyF P t)
theorem fZ {n : Nat} (h : szF P t = some n) : szOf P t = some n := by
  unfold szF at h
  cases ht : tyF P t with
  | none => rw [ht] at h; cases h
  | some i =>
    rw [ht] at h
    unfold szOf
    rw [fI ht]
    exact h
theorem fY {v : Value} (h : zerF P t = some v) : zeroOf P t = some v := by
  unfold zerF at h
  cases ht : tyF P t with
  | none => rw [ht] at h; cases h
  | some i =>
    rw [ht] at h
    unfold zeroOf
    rw [fI ht]
    exact h
theorem fJ {α : Type} {f : TypeInfo → α} {a : α} (h : (tyF P t).map f = some a) : (P.info? t).map f = some a := by
  cases ht : tyF P t with
  | none => rw [ht] at h; cases h
  | some i =>
    rw [ht] at h
    rw [fI ht]
    exact h
theorem mapM_mono {α β : Type} {f g : α → Option β} (hfg : ∀ a b, f a = some b → g a = some b) : ∀ (l : List α) (r : List β), l.mapM f = some r → l.mapM g = some r := by
  intro l
  induction l with
  | nil => intro r h; simpa using h
  | cons a l ih =>
    intro r h
    rw [List.mapM_cons] at h ⊢
    cases ha : f a with
    | none => rw [ha] at h; cases h
    | some b =>
      rw [ha] at h
      rw [hfg a b ha]
      cases hl : l.mapM f with
      | none => simp [hl] at h
      | some bs =>
        simp [hl] at h
        simp [ih bs hl, h]
end Go.Ev
end
section
/- The evaluator: code by fuel, calls, results. -/
set_option linter.all false
namespace Go.Ev
open Go Go.RowKit Go.Hub
variable {P : Program} {N : Nat} {pl : List Value}
variable {φ : Nat → Tr → Nat → Prop} {pb : Kb} {pn : Nat → Option Obj} {G G' : Gh} {h h' : Tr} {nx nm : Nat} {w w' : World}

/-- a region's evaluation, by its number, its operations and whether its order is drawn -/
abbrev RegE := Nat → Nat → Array Oper → Bool → X
/-- which regions were looked at -/
abbrev GoodE := Nat → Nat → Array Oper → Bool → Bool
def RegS (P : Program) (pl : List Value) (good : GoodE) (reg : RegE) : Prop := ∀ N id ops draw, good N id ops draw = true → CS P N pl (.region id ops draw) (yReg (reg N id ops draw))
noncomputable def okC (good : GoodE) (N : Nat) (c : Code) : Bool :=
  Code.rec true (fun id ops d => good N id ops d) (fun _ _ a b => Bool.rec false b a) (fun _ _ _ a b => Bool.rec false b a) (fun _ _ a => a) (fun _ a => a) (fun _ _ _ _ _ _ => true) (fun _ => true) (fun _ _ => true) (fun _ => true) (fun _ => true) true (fun _ => true) c
theorem bAnd {a b : Bool} (h : (Bool.rec false b a : Bool) = true) : a = true ∧ b = true := by
  cases a
  · cases h
  · exact ⟨rfl, h⟩
noncomputable def mReg (reg : RegE) (N : Nat) (id : Nat) (ops : Array Oper) (draw : Bool) : Y := yReg (reg N id ops draw)
noncomputable def mSeq (_ _ : Code) (y1 y2 : Y) : Y := ySeq y1 y2
noncomputable def yCondV (v : Value) (y1 y2 : Y) : Y := match v with
  | .bool b => Bool.rec y2 y1 b
  | _ => yFail
noncomputable def mCond (c : Operand) (_ _ : Code) (y1 y2 : Y) : Y := Operand.rec (fun t => yCond t y1 y2) (fun v => yCondV v y1 y2) (fun _ => yFail) (fun _ => yFail) c
noncomputable def mBlock (id : Nat) (_ : Code) (y : Y) : Y := yBlock id y
noncomputable def mLoop (ihf : Code → Y) (b : Code) (y : Y) : Y := yLoop ihf b y
noncomputable def mRange (_ : Operand) (_ : Array Tmp) (_ _ : Code) (_ _ : Y) : Y := yFail
noncomputable def mScope (_ : Code) (_ : Y) : Y := yFail
noncomputable def mLab (_ : Nat) : Y := yFail
noncomputable def mStr (_ : String) : Y := yFail
noncomputable def runS (reg : RegE) (N : Nat) (_ : Nat) (ihf : Code → Y) (c : Code) : Y :=
  Code.rec ySkip (mReg reg N) mSeq mCond mBlock (mLoop ihf) mRange yExit mScope mLab mLab yRet mStr c
noncomputable def run0 (_ : Code) : Y := yFail
noncomputable def runC (reg : RegE) (N : Nat) (fuel : Nat) : Code → Y := Nat.rec run0 (runS reg N) fuel
theorem yFail_ok {c : Code} : CS P N pl c yFail := fun cl φ pb pn G h nx w e a k x r Q C R EE H hk hx hr => H.elim
theorem runC_ok {reg : RegE} {good : GoodE} (hr : RegS P pl good reg) : ∀ (fuel : Nat), (∀ c, okC good N c = true → CS P N pl c (runC reg N fuel c)) ∧ ∀ b, okC good N b = true → LS P N pl b fuel (runC reg N fuel (.loop b)) := by
  intro fuel
  induction fuel with
  | zero => exact ⟨fun c _ => yFail_ok, fun b _ => fun cl φ pb pn G h nx w e a k x r Q C R EE H hk hx hr => H.elim⟩
  | succ n ih =>
    have all : ∀ c, okC good N c = true → CS P N pl c (runC reg N (n + 1) c) := by
      intro c
      induction c with
      | skip => exact fun _ => ySkip_ok
      | region id ops draw => exact fun hg => hr N id ops draw hg
      | seq a b iha ihb =>
        intro hg
        obtain ⟨g1, g2⟩ := bAnd hg
        exact (ySeq_ok (iha g1) (ihb g2) : CS P N pl (.seq a b) (ySeq (runC reg N (n + 1) a) (runC reg N (n + 1) b)))
      | cond c a b iha ihb =>
        intro hg
        obtain ⟨g1, g2⟩ := bAnd hg
        cases c with
        | tmp t => exact (yCond_ok (iha g1) (ihb g2) : CS P N pl (.cond (.tmp t) a b) (yCond t (runC reg N (n + 1) a) (runC reg N (n + 1) b)))
        | const v =>
          cases v with
          | bool v =>
            cases v with
            | true => exact fun cl φ pb pn G h nx w e a k x r Q C R EE H hk hx hr => wp_cond_true rfl (iha g1 cl φ pb pn G h nx w e a k x r Q C R EE H hk hx hr)
            | false => exact fun cl φ pb pn G h nx w e a k x r Q C R EE H hk hx hr => wp_cond_false rfl (ihb g2 cl φ pb pn G h nx w e a k x r Q C R EE H hk hx hr)
          | _ => exact yFail_ok
        | _ => exact yFail_ok
      | block id b ihb => exact fun hg => (yBlock_ok (ihb hg) : CS P N pl (.block id b) (yBlock id (runC reg N (n + 1) b)))
      | loop b ihb => exact fun hg => ((yLoop_ok (ihf := runC reg N n) (ih.2 b hg) (ihb hg)).loop : CS P N pl (.loop b) (yLoop (runC reg N n) b (runC reg N (n + 1) b)))
      | exit id => exact fun _ => yExit_ok
      | ret => exact fun _ => yRet_ok
      | _ => exact fun _ => yFail_ok
    exact ⟨all, fun b hg => yLoop_ok (ihf := runC reg N n) (ih.2 b hg) (all b hg)⟩

/-! ### results -/
def rvS (tmps : Array Value) : ResultVar → Sem Value
  | .tmp t => pure (tmps.getD t undef)
  | .cell a t => do loadVar t (← asAddr (tmps.getD a undef))
def isRw (P : Program) (t : Nat) : Bool := match P.underlying t with | some d => d.isRow | none => false
noncomputable def isRwF (P : Program) (t : Nat) : Bool := match undF P t with | some d => d.isRow | none => false
noncomputable def rv (P : Program) : ResultVar → V
  | .tmp t => fun e _ => .val (gF e t)
  | .cell a t => match undF P t with
    | some _ => match szF P t with
      | some sz => Bool.rec (ld1 fun e => gF e a) (ldA sz fun e => gF e a) (isRwF P t)
      | none => fun _ _ => .no
    | none => fun _ _ => .no
/-- a value that is handed on -/
noncomputable def retT (h : Tr) (nx : Nat) (k : KV) (r : Res) : T := Res.rec T.fail (fun c => k c h nx) (fun t o => chk (Nat.blt nx 16000000) (k (Nat.add t (Nat.mul 32 nx)) (h.set nx o) (Nat.add nx 1))) (fun _ _ => T.fail) r
theorem ROk.ret {k : KV} {s : Sem Next} {r : Res} (R : Rel P pb pn G h nx w) (hr : ROk P G w s r) (H : Tall φ (retT h nx k r)) :
    ∃ v G' c h' nx', s.run P w = .ok (.value v) w ∧ Gle G G' ∧ Rel P pb pn G' h' nx' w ∧ VRel G' c v ∧ Tall φ (k c h' nx') := by
  have hN : G nx = none := R.fresh nx (Nat.le_refl _)
  cases r with
  | no => exact H.elim
  | val c =>
    obtain ⟨v, h1, h2⟩ := hr
    exact ⟨v, G, c, h, nx, h1, Gle.rfl, R, h2, H⟩
  | imm t o =>
    obtain ⟨v, h1, h2, h3⟩ := hr
    obtain ⟨hnx, H⟩ := Tall.chk H
    have hg : Gle G (Gup G nx (.val v)) := Gup.le hN
    have g3 := h3 _ nx hg (Gup.at _ _ _) R.nxb
    exact ⟨v, Gup G nx (.val v), _, h.set nx o, nx + 1, h1, hg, R.newV h2 (nxOk hnx) (g3.2 w), g3.1, H⟩
  | blk cf o => exact H.elim
theorem loadVar_of {t : Nat} {ad v : Value} {w w' : World} {ps : String} (h : (execOp (fun _ => ad) ⟨none, .load t (.tmp 0), 0, ps, #[], none⟩).run P w = .ok (.value v) w') : (do loadVar t (← asAddr ad)).run P w = .ok v w' := by
  simp only [execOp, Sem.run_bind] at h
  cases hr : (Instr.loadAt t ad).run P w with
  | ok v' w2 =>
    rw [hr] at h
    simp [Result.andThen] at h
    obtain ⟨rfl, rfl⟩ := h
    cases ad with
    | pointer a =>
      cases a with
      | some a => simpa [Instr.loadAt, Instr.sureAddr, asAddr] using hr
      | none => simp [Instr.loadAt, Instr.sureAddr, stuck] at hr
    | _ => simp [Instr.loadAt, Instr.sureAddr, stuck] at hr
  | halt x w2 => rw [hr] at h; simp [Result.andThen] at h
/-- a result by its code -/
theorem rv_ok (r : ResultVar) {e : Nat} {a : Act} {k : KV} (R : Rel P pb pn G h nx w) (EE : ERel pl G N e a) (H : Tall φ (retT h nx k (rv P r e h))) :
    ∃ v G' c h' nx', (rvS a.tmps r).run P w = .ok v w ∧ Gle G G' ∧ Rel P pb pn G' h' nx' w ∧ VRel G' c v ∧ Tall φ (k c h' nx') := by
  cases r with
  | tmp t => exact ⟨_, G, _, h, nx, by simp [rvS], Gle.rfl, R, EE.slot t, H⟩
  | cell p t =>
    have fin : ∀ {f : V}, VS P N pl ⟨none, .load t (.tmp p), 0, "", #[], none⟩ f → Tall φ (retT h nx k (f e h)) →
            ∃ v G' c h' nx', (rvS a.tmps (.cell p t)).run P w = .ok v w ∧ Gle G G' ∧ Rel P pb pn G' h' nx' w ∧ VRel G' c v ∧ Tall φ (k c h' nx') := by
      intro f hf H
      obtain ⟨v, G', c, h', nx', h1, hg, R', hv, H⟩ := (hf pb pn G h nx w e a R (EE.op _)).ret R H
      exact ⟨v, G', c, h', nx', loadVar_of (ps := "") h1, hg, R', hv, H⟩
    unfold rv at H
    simp only at H
    cases hu : undF P t with
    | none => rw [hu] at H; exact H.elim
    | some d =>
      rw [hu] at H
      simp only at H
      cases hs : szF P t with
      | none => rw [hs] at H; exact H.elim
      | some sz =>
        rw [hs] at H
        simp only at H
        cases hr : isRwF P t with
        | false =>
          rw [hr] at H
          exact fin (ld1_ok (x := .tmp p) (fU hu) (by unfold isRwF at hr; rw [hu] at hr; exact hr)) H
        | true =>
          rw [hr] at H
          exact fin (ldA_ok (x := .tmp p) (fU hu) (by unfold isRwF at hr; rw [hu] at hr; exact hr) (fZ hs)) H
/-- what a function yields -/
noncomputable def tupV (l : List Nat) (h : Tr) (nx : Nat) (k : KV) : T := chk (Nat.blt nx 16000000) (k (cT nx) (h.set nx (.tup l.length (rowL l))) (Nat.add nx 1))
noncomputable def resV (P : Program) (rs : Array ResultVar) (e : Nat) (h : Tr) (nx : Nat) (k : KV) : T :=
  match rs with
  | ⟨[]⟩ => k 0 h nx
  | ⟨[r]⟩ => retT h nx k (rv P r e h)
  | ⟨[r, s]⟩ => retT h nx (fun c h nx => retT h nx (fun d h nx => tupV [c, d] h nx k) (rv P s e h)) (rv P r e h)
  | ⟨[r, s, q]⟩ => retT h nx (fun c h nx => retT h nx (fun d h nx => retT h nx (fun b h nx => tupV [c, d, b] h nx k) (rv P q e h)) (rv P s e h)) (rv P r e h)
  | _ => T.fail
theorem tupV_ok {l : List Nat} {vs : List Value} {k : KV} (R : Rel P pb pn G h nx w) (hl : l.length = vs.length) (hv : ∀ i, i < vs.length → VRel G (l.getD i 0) (vs.getD i undef)) (H : Tall φ (tupV l h nx k)) :
    ∃ G' c h' nx', Gle G G' ∧ Rel P pb pn G' h' nx' w ∧ VRel G' c (.tuple vs.toArray) ∧ Tall φ (k c h' nx') := by
  obtain ⟨hnx, H⟩ := Tall.chk H
  have hN : G nx = none := R.fresh nx (Nat.le_refl _)
  have hlt : ∀ c ∈ l, c < 2 ^ 96 := fun c hc => by
    obtain ⟨i, hi, rfl⟩ := List.getElem_of_mem hc
    have := (hv i (by omega)).lt
    rw [List.getD_eq_getElem?_getD, List.getElem?_eq_getElem hi] at this
    exact this
  refine ⟨Gup G nx (.val (.tuple vs.toArray)), cT nx, _, nx + 1, Gup.le hN, R.newV (o := .tup l.length (rowL l)) rfl (nxOk hnx) ⟨vs.toArray, Gup.at _ _ _, by simp [hl], fun i hi => ?_⟩, .tup nx _ (Gup.at _ _ _) R.nxb, H⟩
  rw [getS_rowL l hlt]
  have := (hv i (by omega)).mono (Gup.le (d := .val (.tuple vs.toArray)) hN)
  simpa [List.getD_eq_getElem?_getD, Array.getD_eq_getD_getElem?] using this
theorem resV_ok {fn : Func} {e : Nat} {a : Act} {k : KV} (R : Rel P pb pn G h nx w) (EE : ERel pl G N e a) (H : Tall φ (resV P fn.results e h nx k)) :
    ∃ v G' c h' nx', (results fn a.tmps).run P w = .ok v w ∧ Gle G G' ∧ Rel P pb pn G' h' nx' w ∧ VRel G' c v ∧ Tall φ (k c h' nx') := by
  have eq : ∀ tmps, results fn tmps = (do let vs ← fn.results.mapM (rvS tmps); pure (if h : vs.size = 1 then vs[0] else .tuple vs)) := fun tmps => by
    unfold results
    congr 1
  rw [eq]
  unfold resV at H
  split at H
  · rename_i hr
    rw [hr]
    exact ⟨.tuple #[], G, 0, h, nx, by simp, Gle.rfl, R, .unk _, H⟩
  · rename_i r hr
    rw [hr]
    obtain ⟨v, G', c, h', nx', h1, hg, R', hv, H⟩ := rv_ok r R EE H
    exact ⟨v, G', c, h', nx', by simp [Sem.run_bind, h1, Result.andThen], hg, R', hv, H⟩
  · rename_i r s hr
    rw [hr]
    obtain ⟨v1, G1, c1, h1, nx1, e1, hg1, R1, hv1, H⟩ := rv_ok r R EE H
    obtain ⟨v2, G2, c2, h2, nx2, e2, hg2, R2, hv2, H⟩ := rv_ok s R1 (EE.mono hg1) H
    obtain ⟨G', c, h', nx', hg, R', hv, H⟩ := tupV_ok (vs := [v1, v2]) R2 rfl (fun i hi => by
      match i, hi with
      | 0, _ => exact hv1.mono hg2
      | 1, _ => exact hv2) H
    exact ⟨_, G', c, h', nx', by simp [Sem.run_bind, e1, e2, Result.andThen], hg1.trans (hg2.trans hg), R', hv, H⟩
  · rename_i r s q hr
    rw [hr]
    obtain ⟨v1, G1, c1, h1, nx1, e1, hg1, R1, hv1, H⟩ := rv_ok r R EE H
    obtain ⟨v2, G2, c2, h2, nx2, e2, hg2, R2, hv2, H⟩ := rv_ok s R1 (EE.mono hg1) H
    obtain ⟨v3, G3, c3, h3, nx3, e3, hg3, R3, hv3, H⟩ := rv_ok q R2 (EE.mono (hg1.trans hg2)) H
    obtain ⟨G', c, h', nx', hg, R', hv, H⟩ := tupV_ok (vs := [v1, v2, v3]) R3 rfl (fun i hi => by
      match i, hi with
      | 0, _ => exact hv1.mono (hg2.trans hg3)
      | 1, _ => exact hv2.mono hg3
      | 2, _ => exact hv3) H
    exact ⟨_, G', c, h', nx', by simp [Sem.run_bind, e1, e2, e3, Result.andThen], hg1.trans (hg2.trans (hg3.trans hg)), R', hv, H⟩
  · exact H.elim

/-! ### calls -/
noncomputable def kRet (P : Program) (fn : Func) (kv : KV) : K := fun e h nx => resV P fn.results e h nx kv
noncomputable def xFail : Nat → K := fun _ _ _ _ => .fail
noncomputable def callB (P : Program) (reg : RegE) (cl : CL) (na e0 : Nat) (h : Tr) (nx : Nat) (kv : KV) (fn : Func) (c : Code) : T :=
  chk (Nat.ble na fn.ntmps) (runC reg fn.ntmps 1000000 c cl e0 h nx (kRet P fn kv) xFail (kRet P fn kv))
noncomputable def callO (P : Program) (reg : RegE) (cl : CL) (na e0 : Nat) (h : Tr) (nx : Nat) (kv : KV) (fn : Option Func) : T :=
  Option.rec T.fail (fun fn => Option.rec T.fail (fun c => callB P reg cl na e0 h nx kv fn c) fn.body) fn
/-- what is not evaluated, but known: which functions, their results; col: which functions' ways are one -/
structure Ext where
  is : Nat → Bool
  f : CL
  col : Nat → Bool
def ExtS (P : Program) (pl : List Value) (x : Ext) : Prop := ∀ φ pb pn G h nx w f e0 (args : Array Value) kv (R : Ending → World → Prop), x.is f = true → Rel P pb pn G h nx w → Pool pl G → (∀ i, i < args.size → VRel G (gF e0 i) (args.getD i undef)) → (∀ i, args.size ≤ i → gF e0 i = 0) →
  Tall φ (x.f f args.size e0 h nx kv) → (∀ G' h' nx' w' c v, Gle G G' → Rel P pb pn G' h' nx' w' → VRel G' c v → Tall φ (kv c h' nx') → R (.returned v) w') → Calls P f args w R
noncomputable def call0 : CL := fun _ _ _ _ _ _ => .fail
noncomputable def bitAt (en f : Nat) : Bool := Nat.beq (Nat.land (Nat.shiftRight en f) 1) 1
/-- the functions whose regions were looked at -/
def GoodS (P : Program) (gd : Nat) (good : Nat → GoodE) : Prop := ∀ f, bitAt gd f = true → ∀ fn c, P.funcs[f]? = some fn → fn.body = some c → okC (good f) fn.ntmps c = true
noncomputable def callF (P : Program) (gd : Nat) (reg : Nat → RegE) (ih : CL) : CL := fun f na e0 h nx kv => chk (bitAt gd f) (callO P (reg f) ih na e0 h nx kv (nth P.funcs.toList f))
noncomputable def callS (P : Program) (gd : Nat) (reg : Nat → RegE) (x : Ext) (_ : Nat) (ih : CL) : CL := fun f na e0 h nx kv => Bool.rec (Bool.rec (callF P gd reg ih f na e0 h nx kv) (colT (fun h kv => callF P gd reg ih f na e0 h nx kv) h nx kv) (x.col f)) (x.f f na e0 h nx kv) (x.is f)
noncomputable def callN (P : Program) (gd : Nat) (reg : Nat → RegE) (x : Ext) (fuel : Nat) : CL := Nat.rec call0 (callS P gd reg x) fuel
theorem callF_ok {gd : Nat} {good : Nat → GoodE} {reg : Nat → RegE} {cl : CL} (hr : ∀ f, RegS P pl (good f) (reg f)) (hg : GoodS P gd good) (ih : CLS P pl cl) : CLS P pl (callF P gd reg cl) := by
  intro φ pb pn G h nx w f e0 args kv R RR hp ha hz H hk
  obtain ⟨hgf, H⟩ := Tall.chk H
  have H : Tall φ (callO P (reg f) cl args.size e0 h nx kv (nth P.funcs.toList f)) := H
  rw [nth_eq, Array.getElem?_toList] at H
  cases hfn : P.funcs[f]? with
  | none => rw [hfn] at H; exact H.elim
  | some fn =>
    rw [hfn] at H
    cases hb : fn.body with
    | none =>
      have H : Tall φ (Option.rec T.fail (fun c => callB P (reg f) cl args.size e0 h nx kv fn c) fn.body) := H
      rw [hb] at H; exact H.elim
    | some c =>
      have H : Tall φ (Option.rec T.fail (fun c => callB P (reg f) cl args.size e0 h nx kv fn c) fn.body) := H
      rw [hb] at H
      obtain ⟨hn, H⟩ := Tall.chk H
      have hn : args.size ≤ fn.ntmps := Nat.le_of_ble_eq_true hn
      have EE : ERel pl G fn.ntmps e0 { tmps := args ++ Array.replicate (fn.ntmps - args.size) undef, defers := [] } := by
        refine ⟨hp, by simp; omega, rfl, fun t => ?_⟩
        rcases Nat.lt_or_ge t args.size with ht | ht
        · have := ha t ht
          rw [Array.getD_eq_getD_getElem?, Array.getElem?_append_left ht]
          rw [Array.getD_eq_getD_getElem?] at this
          exact this
        · rw [hz t ht]
          exact .unk _
      refine calls_of_wp hfn hb ?_
      have ret : KS P fn.ntmps pl φ pb pn G (kRet P fn kv) (bodyPost P fn R .ret) := by
        intro G' h' nx' w' e' a' g R' EE' H'
        obtain ⟨v, G2, c2, h2, nx2, e1, hg, R2, hv, H2⟩ := resV_ok R' EE' H'
        exact bodyPost_ret e1 EE'.defers (hk G2 h2 nx2 w' c2 v (g.trans hg) R2 hv H2)
      have nor : KS P fn.ntmps pl φ pb pn G (kRet P fn kv) (bodyPost P fn R .normal) := by
        intro G' h' nx' w' e' a' g R' EE' H'
        obtain ⟨v, G2, c2, h2, nx2, e1, hg, R2, hv, H2⟩ := resV_ok R' EE' H'
        exact bodyPost_end e1 EE'.defers (hk G2 h2 nx2 w' c2 v (g.trans hg) R2 hv H2)
      exact (runC_ok (hr f) 1000000).1 c (hg f hgf fn c hfn hb) (cl) φ pb pn G h nx w e0 _ _ _ _ _ ih RR EE H nor (fun id G' h' nx' w' e' a' g R' EE' H' => H'.elim) ret
theorem callN_ok {gd : Nat} {good : Nat → GoodE} {reg : Nat → RegE} {x : Ext} (hr : ∀ f, RegS P pl (good f) (reg f)) (hg : GoodS P gd good) (hx : ExtS P pl x) : ∀ fuel, CLS P pl (callN P gd reg x fuel) := by
  intro fuel
  induction fuel with
  | zero => exact fun φ pb pn G h nx w f e0 args kv R RR hp ha hz H => H.elim
  | succ n ih =>
    intro φ pb pn G h nx w f e0 args kv R RR hp ha hz H hk
    have H : Tall φ (Bool.rec (Bool.rec (callF P gd reg (callN P gd reg x n) f args.size e0 h nx kv) (colT (fun h kv => callF P gd reg (callN P gd reg x n) f args.size e0 h nx kv) h nx kv) (x.col f)) (x.f f args.size e0 h nx kv) (x.is f)) := H
    cases hf : x.is f with
    | true =>
      rw [hf] at H
      exact hx φ pb pn G h nx w f e0 args kv R hf RR hp ha hz H hk
    | false =>
      rw [hf] at H
      cases hc : x.col f with
      | true =>
        rw [hc] at H
        exact colT_ok (callF_ok hr hg ih) φ pb pn G h nx w f e0 args kv R RR hp ha hz H hk
      | false =>
        rw [hc] at H
        exact callF_ok hr hg ih φ pb pn G h nx w f e0 args kv R RR hp ha hz H hk
end Go.Ev
end
section
/- Regions by entries: plain and drawn; the whole evaluator's soundness from the entries'. -/
set_option linter.all false
namespace Go.Ev
open Go Go.RowKit Go.Hub
variable {P : Program} {N : Nat} {pl : List Value}
variable {φ : Nat → Tr → Nat → Prop} {pb : Kb} {pn pn' : Nat → Option Obj} {G G' : Gh} {h h' : Tr} {nx nm : Nat} {w w' : World}

/-- the plan: what is no effect as soon as it is ready, then the next effect -/
noncomputable def pick (ent : Oper → Ent) (ops : Array Oper) (ms : List Nat) (dn : Nat) (eff : Bool) : List Nat → Option Nat
  | [] => none
  | i :: r => cond (cond (Nat.testBit dn i) false (cond (Nat.beq (Nat.land (ms.getD i 0) dn) (ms.getD i 0)) (cond (isEff ent ops i) eff (not eff)) false)) (some i) (pick ent ops ms dn eff r)
noncomputable def planGo (ent : Oper → Ent) (ops : Array Oper) (ms : List Nat) : Nat → Nat → List Nat → List Nat
  | 0, _, acc => acc.reverse
  | f + 1, dn, acc => match pick ent ops ms dn false (List.range ops.size) with
    | some i => planGo ent ops ms f (Nat.lor dn (Nat.pow 2 i)) (i :: acc)
    | none => match pick ent ops ms dn true (List.range ops.size) with
      | some i => planGo ent ops ms f (Nat.lor dn (Nat.pow 2 i)) (i :: acc)
      | none => acc.reverse
/-- a region's plan, what each operation waits for -/
structure PM where
  l : List Nat
  ms : List Nat
abbrev Ents := Nat → Array Oper → Oper → Ent
abbrev PT := Nat → PM
noncomputable def eqL (l : List Nat) : List Nat → Bool := List.rec (fun r => List.rec true (fun _ _ _ => false) r) (fun a _ ih r => List.rec false (fun b r' _ => Bool.rec false (ih r') (Nat.beq a b)) r) l
theorem eqL_ok : ∀ (l r : List Nat), eqL l r = true → l = r := by
  intro l
  induction l with
  | nil =>
    intro r h
    cases r with
    | nil => rfl
    | cons b r => cases h
  | cons a l ih =>
    intro r h
    cases r with
    | nil => cases h
    | cons b r =>
      have h : (Bool.rec false (eqL l r) (Nat.beq a b) : Bool) = true := h
      obtain ⟨h1, h2⟩ := bAnd h
      rw [Nat.eq_of_beq_eq_true h1, ih r h2]
noncomputable def goodP (ents : Ents) (N : Nat) (ops : Array Oper) (l ms : List Nat) : Bool := cond (statOk ops) (cond (eqL ms (masks ops.toList [])) (planOk (ents N ops) ops ms l 0) false) false
noncomputable def goodR (ents : Ents) (pt : PT) : GoodE := fun N id ops draw => Bool.rec true (PM.rec (fun l ms => goodP ents N ops l ms) (pt id)) draw
noncomputable def drX (ents : Ents) (N : Nat) (ops : Array Oper) (cl : CL) (e : Nat) (h : Tr) (nx : Nat) (k : K) (l ms : List Nat) : T := dX (ents N ops) ops ms N l [] cl e h nx k
noncomputable def regOf (ents : Ents) (pt : PT) : RegE := fun N id ops draw => Bool.rec (runL (fun o => ⟨entX N o.dst (ents N ops o)⟩) ops.toList) (fun cl e h nx k => PM.rec (drX ents N ops cl e h nx k) (pt id)) draw
theorem dr_ok (hm : P.follows .mixedOrders = true) {ents : Ents} {pt : PT} (hE : ∀ N ops o, EntS P N pl ops o (ents N ops o)) {id : Nat} {ops : Array Oper} (hg : goodR ents pt N id ops true = true) : CS P N pl (.region id ops true) (yReg (regOf ents pt N id ops true)) := by
  intro cl φ pb pn G h nx w e a k x r Q C R EE H hk hx hr
  have hok : goodP ents N ops (pt id).l (pt id).ms = true := hg
  have H : Tall φ (dX (ents N ops) ops (pt id).ms N (pt id).l [] cl e h nx k) := H
  unfold goodP at hok
  cases hst : statOk ops with
  | false => rw [hst] at hok; cases hok
  | true =>
    rw [hst] at hok
    simp only [cond_true] at hok
    cases hms : eqL (pt id).ms (masks ops.toList []) with
    | false => rw [hms] at hok; cases hok
    | true =>
    rw [hms] at hok
    simp only [cond_true] at hok
    have hms := eqL_ok _ _ hms
    rw [hms] at hok H
    refine wp_region_any hm ?_
    have st := Stat.of hst
    refine dr_any (cl := cl) (e0 := e) (k := k) st (fun o => hE N ops o) C ops.size (Array.replicate ops.size false) G a { w with drawn := w.drawn + 1 } (fun _ => false) (pt id).l 0 [] e h nx (fun _ => 0) (fun _ => 0) (fun _ => false) (by simp) ?_ ?_ hk
    · have : ∀ (L : Nat → Bool) (m : Nat), cnt L m ≤ m := fun L m => by
        induction m with
        | zero => exact Nat.le_refl _
        | succ m ih => show cnt L m + (if L m = true then 0 else 1) ≤ m + 1; split <;> omega
      exact this _ _
    · have hn : ∀ j, (Array.replicate ops.size false).getD j false = false := fun j => by
        rw [Array.getD_eq_getD_getElem?, Array.getElem?_replicate]
        split <;> rfl
      have c0 : ∀ (S : Nat → Bool) (t : Nat), (∀ j, S j = false) → cur ops e (fun _ => 0) S t = gF e t := fun S t hs => by
        unfold cur
        cases hl : lastW ops S t ops.size with
        | none => rfl
        | some j => have := (lastW_mem hl).1; rw [hs] at this; cases this
      have F : ∀ {p : Prop}, false = true → p := fun h => nomatch h
      have n' : ∀ {p : Prop} (j : Nat), (Array.replicate ops.size false).getD j false = true → p := fun j h => F (by rw [hn] at h; exact h)
      exact ⟨R.world rfl, EE.pool, EE.size, EE.defers, fun j hj => n' j hj, fun j hj => F hj, fun i o hi => n' i hi, fun i o hi => F hi, fun j hj => F hj, fun j => by simp, hok, H, fun t => (c0 _ t fun j => rfl).symm, fun t => (c0 _ t hn).symm ▸ EE.slot t, fun j hj => F hj, fun i j _ hi => F hi⟩
theorem regOf_ok (hm : P.follows .mixedOrders = true) {ents : Ents} (pt : PT) (hE : ∀ N ops o, EntS P N pl ops o (ents N ops o)) : RegS P pl (goodR ents pt) (regOf ents pt) := by
  intro N id ops draw hg
  cases draw with
  | true => exact dr_ok hm hE hg
  | false => exact yReg_ok (comp := fun o => ⟨entX N o.dst (ents N ops o)⟩) fun o => entX_ok (hE N ops o)
end Go.Ev
end
section
/- Calls; functions that hold values. -/
set_option linter.all false
namespace Go.Ev
open Go Go.RowKit Go.Hub
variable {P : Program} {N : Nat} {pl : List Value} {dst : Option Nat} {ty : TypeId} {ps : String} {af : Array Edge} {gd : Option (Nat × Bool)} {x y z : Operand} {t u : TypeId}
variable {φ : Nat → Tr → Nat → Prop} {pb : Kb} {pn : Nat → Option Obj} {G G' : Gh} {h h' : Tr} {nx nm : Nat} {w w' : World}

/-- which functions are entered by a call: told by a number's bits -/
def EnS (P : Program) (en : Nat) : Prop := ∀ f, bitAt en f = true → ∀ args w, (callFunc f args).run P w = .ok (.enter f args) w
noncomputable def argR (pl : List Value) (xs : List Operand) (e : Nat) : Nat := rowL (xs.map fun x => cO pl x e)
theorem argR_ok {e : Nat} {a : Act} {xs : List Operand} (h : ∀ x ∈ xs, VRel G (cO pl x e) (a.eval x)) : argR pl xs e < 2 ^ (96 * xs.length) ∧ ∀ i, VRel G (getS (argR pl xs e) i) ((xs.map a.eval).toArray.getD i undef) ∧ (xs.length ≤ i → getS (argR pl xs e) i = 0) := by
  have hl : ∀ c ∈ xs.map (fun x => cO pl x e), c < 2 ^ 96 := fun c hc => by
    obtain ⟨x, hx, rfl⟩ := List.mem_map.1 hc
    exact (h x hx).lt
  refine ⟨by have := rowL_lt _ hl; rw [List.length_map] at this; exact this, fun i => ?_⟩
  unfold argR
  rw [getS_rowL _ hl]
  rcases Nat.lt_or_ge i xs.length with hi | hi
  · refine ⟨?_, fun h => absurd hi (by omega)⟩
    have e1 : (xs.map fun x => cO pl x e).getD i 0 = cO pl xs[i] e := by simp [List.getD_eq_getElem?_getD, hi]
    have e2 : (xs.map a.eval).toArray.getD i undef = a.eval xs[i] := by simp [Array.getD_eq_getD_getElem?, hi]
    rw [e1, e2]
    exact h _ (List.getElem_mem hi)
  · have e1 : (xs.map fun x => cO pl x e).getD i 0 = 0 := by simp [List.getD_eq_getElem?_getD, List.getElem?_eq_none hi]
    rw [e1]
    exact ⟨.unk _, fun _ => rfl⟩
noncomputable def callX (pl : List Value) (en f : Nat) (xs : List Operand) : CV := fun cl e h nx kv => chk (bitAt en f) (cl f xs.length (frm e (argR pl xs e) f) h nx kv)
theorem call_ok {en : Nat} (hen : EnS P en) {f : Nat} {xs : Array Operand} {ats : Array TypeId} : XS P N pl ⟨dst, .call { callee := .value (.func f), args := xs, argTypes := ats }, ty, ps, af, gd⟩ (callX pl en f xs.toList) := by
  intro cl φ pb pn G h nx w e a kv K Q C R EE H HK
  obtain ⟨hf, H⟩ := Tall.chk H
  have hr : (execOp a.eval ⟨dst, .call { callee := .value (.func f), args := xs, argTypes := ats }, ty, ps, af, gd⟩).run P w = .ok (.enter f (xs.map a.eval)) w := run_call (hen f hf) rfl
  unfold Oper.wp
  rw [hr]
  have ha := argR_ok (xs := xs.toList) (e := e) (a := a) fun x hx => EE.val x (by simp [Op.operands, Call.operands]; exact .inr (by simpa using hx))
  have hs : (xs.map a.eval).size = xs.toList.length := by simp
  have hx : (xs.toList.map a.eval).toArray = xs.map a.eval := by rw [← Array.toList_map]
  refine C φ pb pn G h nx w f (frm e (argR pl xs.toList e) f) (xs.map a.eval) kv _ R EE.pool (fun i _ => by rw [gF_frm, ← hx]; exact (ha.2 i).1) (fun i hi => by rw [gF_frm]; exact (ha.2 i).2 (by rw [hs] at hi; exact hi)) (by rw [hs]; exact H) ?_
  intro G' h' nx' w' c v hg R' hv H'
  exact HK G' h' nx' w' c v hg R' hv H'
theorem adN_F {nm : Nat} (h : nm < 16777216) : adN (cF nm) = nm := by show (cF nm) / 32 % 16777216 = nm; unfold cF; omega
noncomputable def callV (pl : List Value) (en : Nat) (x : Operand) (xs : List Operand) : CV := fun cl e h nx kv => chk (isT 11 (cO pl x e)) (rdC T.fail (h.get (adN (cO pl x e))) fun f n1 c1 n2 c2 => chk (bitAt en f) (cl f (Nat.add n1 (Nat.add xs.length n2)) (frm e (catR n1 (sub c1 0 n1) (catR xs.length (argR pl xs e) (sub c2 0 n2))) f) h nx kv))
theorem callV_ok {en : Nat} (hen : EnS P en) {xs : Array Operand} {ats : Array TypeId} : XS P N pl ⟨dst, .call { callee := .value x, args := xs, argTypes := ats }, ty, ps, af, gd⟩ (callV pl en x xs.toList) := by
  intro cl φ pb pn G h nx w e a kv K Q C R EE H HK
  obtain ⟨ht, H⟩ := Tall.chk H
  obtain ⟨nm, fn, cx, cy, hv, hc, hG, hn⟩ := (EE.val x (by simp [Op.operands, Call.operands])).inv_fn (isT_ok ht)
  rw [hc, adN_F hn] at H
  cases ho : h.get nm with
  | clo f n1 c1 n2 c2 =>
    rw [ho] at H
    obtain ⟨hf, H⟩ := Tall.chk H
    have hO := R.obj nm (by rw [hG]; simp)
    rw [ho] at hO
    obtain ⟨cx', cy', g1, g2, g3, g4, g5⟩ := hO
    rw [hG] at g1
    injection g1 with g1
    injection g1 with g1
    injection g1 with g0 g1 g1'
    subst g0 g1 g1'
    have hr : (execOp a.eval ⟨dst, .call { callee := .value x, args := xs, argTypes := ats }, ty, ps, af, gd⟩).run P w = .ok (.enter f (cx ++ xs.map a.eval ++ cy)) w := by
      simp [execOp, resolve, hv, Deferred.ofValue, invoke, hen f hf]
    unfold Oper.wp
    rw [hr]
    have ha := argR_ok (xs := xs.toList) (e := e) (a := a) fun x hx => EE.val x (by simp [Op.operands, Call.operands]; exact .inr (by simpa using hx))
    have hx : (xs.toList.map a.eval).toArray = xs.map a.eval := by rw [← Array.toList_map]
    have hs : (cx ++ xs.map a.eval ++ cy).size = n1 + (xs.toList.length + n2) := by simp [g2, g3, Nat.add_assoc]
    have hget : ∀ i, getS (catR n1 (sub c1 0 n1) (catR xs.toList.length (argR pl xs.toList e) (sub c2 0 n2))) i = if i < n1 then getS c1 i else if i - n1 < xs.toList.length then getS (argR pl xs.toList e) (i - n1) else if i - n1 - xs.toList.length < n2 then getS c2 (i - n1 - xs.toList.length) else 0 := fun i => by
      rw [getS_cat (sub_lt _ _ _)]
      split
      · rename_i hi
        rw [getS_sub, if_pos hi, Nat.zero_add]
      · rw [getS_cat ha.1]
        split
        · rfl
        · rw [getS_sub, Nat.zero_add]
    refine C φ pb pn G h nx w f _ (cx ++ xs.map a.eval ++ cy) kv _ R EE.pool (fun i hi => ?_) (fun i hi => ?_) (by rw [hs]; exact H) ?_
    · rw [gF_frm, hget]
      by_cases h1 : i < n1
      · have : (cx ++ xs.map a.eval ++ cy).getD i undef = cx.getD i undef := by
          simp only [Array.getD_eq_getD_getElem?]
          rw [Array.getElem?_append_left (by simp; omega), Array.getElem?_append_left (by omega)]
        rw [if_pos h1, this]
        exact g4 i h1
      · rw [if_neg h1]
        by_cases h2 : i - n1 < xs.toList.length
        · have : (cx ++ xs.map a.eval ++ cy).getD i undef = (xs.toList.map a.eval).toArray.getD (i - n1) undef := by
            rw [hx]
            simp only [Array.getD_eq_getD_getElem?]
            rw [Array.getElem?_append_left (by simp at h2 ⊢; omega), Array.getElem?_append_right (by omega), g2]
          rw [if_pos h2, this]
          exact (ha.2 _).1
        · rw [if_neg h2]
          by_cases h3 : i - n1 - xs.toList.length < n2
          · have : (cx ++ xs.map a.eval ++ cy).getD i undef = cy.getD (i - n1 - xs.toList.length) undef := by
              simp only [Array.getD_eq_getD_getElem?]
              rw [Array.getElem?_append_right (by simp at h2 ⊢; omega)]
              simp [g2]
              congr 2; omega
            rw [if_pos h3, this]
            exact g5 _ h3
          · rw [if_neg h3]
            exact .unk _
    · rw [gF_frm, hget]
      rw [hs] at hi
      rw [if_neg (by omega), if_neg (by omega), if_neg (by omega)]
    · intro G' h' nx' w' c v hg R' hv H'
      exact HK G' h' nx' w' c v hg R' hv H'
  | _ => rw [ho] at H; exact H.elim
/-! ### functions that hold values -/
noncomputable def mkF (pl : List Value) (f : Nat) (xs ys : List Operand) : V := fun e _ => .imm 11 (.clo f xs.length (argR pl xs e) ys.length (argR pl ys e))
theorem mkF_ok {f : Nat} {xs ys : Array Operand} : VS P N pl ⟨dst, .makeFunc (.func f) xs ys, ty, ps, af, gd⟩ (mkF pl f xs.toList ys.toList) := by
  intro pb pn G h nx w e a R EE
  have hx := argR_ok (xs := xs.toList) (e := e) (a := a) fun x hx => EE.val x (by simp [Op.operands]; exact .inl (by simpa using hx))
  have hy := argR_ok (xs := ys.toList) (e := e) (a := a) fun x hx => EE.val x (by simp [Op.operands]; exact .inr (by simpa using hx))
  have ex : (xs.toList.map a.eval).toArray = xs.map a.eval := by rw [← Array.toList_map]
  have ey : (ys.toList.map a.eval).toArray = ys.map a.eval := by rw [← Array.toList_map]
  rw [ex] at hx
  rw [ey] at hy
  refine ⟨.func (.func f) (xs.map a.eval) (ys.map a.eval), by simp [execOp, Instr.makeFunc], rfl, fun G' nm hg hG hn => ⟨.fn nm _ _ _ hG hn, fun w' => ⟨xs.map a.eval, ys.map a.eval, hG, by simp, by simp, fun i _ => ((hx.2 i).1).mono hg, fun i _ => ((hy.2 i).1).mono hg⟩⟩⟩
end Go.Ev
end
section
/- Parts of slices with a greatest capacity. -/
set_option linter.all false
namespace Go.Ev
open Go Go.RowKit Go.Hub
variable {P : Program} {N : Nat} {pl : List Value} {dst : Option Nat} {ty : TypeId} {ps : String} {af : Array Edge} {gd : Option (Nat × Bool)} {x y z v3 : Operand} {t u : TypeId}

noncomputable def sl3V (el sz : Nat) (x y z v : Nat → Nat) : V := fun e h => idx Res.no (y e) fun i => idx Res.no (z e) fun j => idx Res.no (v e) fun k => slcR sz (x e) i j (Nat.succ k) (isEl h (x e) el)
theorem sl3_ok {el sz : Nat} (ht : P.underlying t = some (.slice el)) (hs : szOf P el = some sz) : VS P N pl ⟨dst, .slice t x (some y) (some z) (some v3), ty, ps, af, gd⟩ (sl3V el sz (cO pl x) (cO pl y) (cO pl z) (cO pl v3)) := by
  intro pb pn G h nx w e a R EE
  refine ROk.idx (EE.val y (by simp [Op.operands])) fun k1 i hi => ROk.idx (EE.val z (by simp [Op.operands])) fun k2 j hj => ROk.idx (EE.val v3 (by simp [Op.operands])) fun k3 k hk => slcR_ok (EE.val x (by simp [Op.operands])) (isEl_ok R hs) ?_
  intro A len cap hv h1 h2 h3
  simp only [Nat.succ_ne_zero, if_false, Nat.succ_eq_add_one, Nat.add_sub_cancel] at h2 h3 ⊢
  unfold szOf at hs
  cases hq : P.info? el with
  | none => simp [hq] at hs
  | some i' =>
    have hs' : i'.size = sz := by simpa [hq] using hs
    have e1 : ((i : Nat) : Int) ≤ ((j : Nat) : Int) := by omega
    have e2 : ((j : Nat) : Int) ≤ ((k : Nat) : Int) := by omega
    have e3 : ((k : Nat) : Int) ≤ ((cap : Nat) : Int) := by omega
    simp [execOp, hv, hi, hj, hk, Instr.sliceAt, Instr.slice, Instr.sliceBounds, Instr.sliceBound, asIntOf, run_underlying ht, h1, h2, h3, e1, e2, e3, sizeOf, typeInfo, hq, hs']
end Go.Ev
end
section
/- Slices that are made: elements of one cell. -/
set_option linter.all false
namespace Go.Ev
open Go Go.RowKit Go.Hub
variable {P : Program} {N : Nat} {pl : List Value} {dst : Option Nat} {ty : TypeId} {ps : String} {af : Array Edge} {gd : Option (Nat × Bool)} {x y z v3 : Operand} {t u : TypeId}

noncomputable def mkSV (el zc : Nat) (x y : Nat → Nat) : V := fun e _ => idx Res.no (x e) fun l => idx Res.no (y e) fun c => rif (Nat.ble l c) (rif (Nat.blt c 100000) (.blk (cL 0 0 l (Nat.succ c)) (.row true 0 el c (Nat.mul zc (ones c)))))
theorem mkS_ok {el : TypeId} {i : TypeInfo} {zv : Value} (ht : P.underlying t = some (.slice el)) (hi : P.info? el = some i) (hz : i.zero = some zv) (h1 : i.size = 1) (hz1 : zv.cells = #[zv]) (hc : zcode zv ≠ 0) (hb : i.bytes ≤ 1000) :
    VS P N pl ⟨dst, .makeSlice t x y, ty, ps, af, gd⟩ (mkSV el (zcode zv) (cO pl x) (cO pl y)) := by
  intro pb pn G h nx w e a R EE
  refine ROk.idx (EE.val x (by simp [Op.operands])) fun k1 l hl => ROk.idx (EE.val y (by simp [Op.operands])) fun k2 c hcv => ROk.rif fun hlc => ROk.rif fun hlt => ?_
  have hlc : l ≤ c := Nat.le_of_ble_eq_true hlc
  have hlt : c < 100000 := blt_ok hlt
  have hmul : i.bytes * c ≤ 1000 * 100000 := Nat.mul_le_mul hb (by omega)
  have hr := run_makeSlice (P := P) (w := w) t el i zv ht hi hz k1 k2 (l : Int) (c : Int) (by omega) (by omega) (by rw [Int.toNat_natCast, h1]; omega) (by
    have : ((i.bytes : Nat) : Int) * (c : Int) = ((i.bytes * c : Nat) : Int) := by push_cast; rfl
    rw [this]; omega) (by omega)
  rw [Int.toNat_natCast, Int.toNat_natCast, h1, Nat.mul_one, hz1] at hr
  have hrun : (execOp a.eval ⟨dst, .makeSlice t x y, ty, ps, af, gd⟩).run P w = .ok (.value (.slice (some ⟨w.heap.size, 0, none⟩) l c)) (w.alloc (.cells (madeCells #[zv] c) el)) := by
    simp only [execOp, hl, hcv]
    rw [Sem.run_bind, hr]
    rfl
  have hsz : szOf P el = some 1 := by unfold szOf; rw [hi]; simp [h1]
  have hcs : (madeCells #[zv] c).size = c := by simp [madeCells]
  obtain ⟨zr, zo⟩ := zcode_ok hc
  refine ⟨_, .cells (madeCells #[zv] c) el, _, 0, c, 1, hrun, ⟨rfl, rfl, rfl⟩, rfl, fun G' nm w' hg hG hnm hw => ⟨?_, ?_⟩⟩
  · have e1 : cL 0 0 l (Nat.succ c) + 32 * nm = cL nm 0 l (c + 1) := by unfold cL; omega
    rw [e1]
    have := VRel.sl (G := G') nm 0 l (c + 1) c w.heap.size 0 c 1 hG hnm (by omega) (by omega) (by omega) (by simp) hlc
    simpa using this
  · have := newRow_rel (c := Nat.mul (zcode zv) (ones c)) (cs := madeCells #[zv] c) (by rw [hcs]; exact hG) hw hsz fun j hj => by
      rw [hcs] at hj
      have e2 : (madeCells #[zv] c).getD j undef = zv := by
        have hj2 : j % 1 = 0 := Nat.mod_one j
        simp [madeCells, Array.getD_eq_getD_getElem?, hj, hj2]
      rw [getS_rep (zr G').lt, if_pos hj, e2]
      exact ⟨zr G', zo⟩
    rw [hcs] at this
    exact this
noncomputable def bs0V (el : Nat) : V := fun _ _ => .blk (cL 0 0 0 1) (.row true 0 el 0 0)
theorem bs0_ok {el : TypeId} {sz : Nat} (ht : P.underlying t = some (.slice el)) (hs : szOf P el = some sz) : VS P N pl ⟨dst, .buildSlice t 0 #[], ty, ps, af, gd⟩ (bs0V el) := by
  intro pb pn G h nx w e a R EE
  have hr := E.buildNone (P := P) (a := a) (w := w) (dst := dst) (ty := ty) (ps := ps) (af := af) (gd := gd) EE.fr ht hs
  refine ⟨_, .cells #[] el, _, 0, 0, sz, hr, ⟨rfl, rfl, rfl⟩, rfl, fun G' nm w' hg hG hnm hw => ⟨?_, ?_⟩⟩
  · have e1 : cL 0 0 0 1 + 32 * nm = cL nm 0 0 1 := by unfold cL; omega
    rw [e1]
    have := VRel.sl (G := G') nm 0 0 1 0 w.heap.size 0 0 sz hG hnm (by omega) (by omega) (by omega) (by simp) (Nat.le_refl _)
    simpa using this
  · exact newRow_rel (c := 0) (cs := #[]) hG hw hs fun i hi => by simp at hi
end Go.Ev
end
section
/- All operations' entries. -/
set_option linter.all false
namespace Go.Ev
open Go Go.RowKit Go.Hub
variable {P : Program} {N : Nat} {pl : List Value} {en e8 : Nat} {ex : Nat → Nat} {dst : Option Nat} {ty : TypeId} {ps : String} {af : Array Edge} {gd : Option (Nat × Bool)}

/-! ### slices that are made: elements of several cells -/
noncomputable def mkSAV (el sz zr : Nat) (x y : Nat → Nat) : V := fun e _ => idx Res.no (x e) fun l => idx Res.no (y e) fun c => rif (Nat.ble l c) (rif (Nat.blt c 10000) (.blk (cL 0 0 l (Nat.succ c)) (.row true 0 el (Nat.mul c sz) (repR sz zr c))))
theorem mkSA_ok {t : TypeId} {x y : Operand} {el : TypeId} {i : TypeInfo} {zv : Value} (ht : P.underlying t = some (.slice el)) (hi : P.info? el = some i) (hz : i.zero = some zv) (h1 : zv.cells.size = i.size) (hc : okZ zv.cells.toList = true) (hb : i.bytes ≤ 1000) (hs : i.size ≤ 1000) :
    VS P N pl ⟨dst, .makeSlice t x y, ty, ps, af, gd⟩ (mkSAV el i.size (zrow zv.cells.toList) (cO pl x) (cO pl y)) := by
  intro pb pn G h nx w e a R EE
  refine ROk.idx (EE.val x (by simp [Op.operands])) fun k1 l hl => ROk.idx (EE.val y (by simp [Op.operands])) fun k2 c hcv => ROk.rif fun hlc => ROk.rif fun hlt => ?_
  have hlc : l ≤ c := Nat.le_of_ble_eq_true hlc
  have hlt : c < 10000 := blt_ok hlt
  have hmul : i.bytes * c ≤ 1000 * 10000 := Nat.mul_le_mul hb (by omega)
  have hmul2 : c * i.size ≤ 10000 * 1000 := Nat.mul_le_mul (by omega) hs
  have hr := run_makeSlice (P := P) (w := w) t el i zv ht hi hz k1 k2 (l : Int) (c : Int) (by omega) (by omega) (by rw [Int.toNat_natCast]; omega) (by
    have : ((i.bytes : Nat) : Int) * (c : Int) = ((i.bytes * c : Nat) : Int) := by push_cast; rfl
    rw [this]; omega) (by omega)
  rw [Int.toNat_natCast, Int.toNat_natCast] at hr
  have hrun : (execOp a.eval ⟨dst, .makeSlice t x y, ty, ps, af, gd⟩).run P w = .ok (.value (.slice (some ⟨w.heap.size, 0, none⟩) l c)) (w.alloc (.cells (madeCells zv.cells (c * i.size)) el)) := by
    simp only [execOp, hl, hcv]
    rw [Sem.run_bind, hr]
    rfl
  have hsz : szOf P el = some i.size := by unfold szOf; rw [hi]; rfl
  have hcs : (madeCells zv.cells (c * i.size)).size = c * i.size := by simp [madeCells]
  have hflat : (madeCells zv.cells (c * i.size)).toList = (List.replicate c zv.cells.toList).flatten := by
    rw [← zeroCells_flat]
    unfold madeCells Builtin.zeroCells
    rw [h1]
  refine ⟨_, .cells (madeCells zv.cells (c * i.size)) el, _, 0, c * i.size, i.size, hrun, ⟨rfl, rfl, rfl⟩, rfl, fun G' nm w' hg hG hnm hw => ⟨?_, ?_⟩⟩
  · have e1 : cL 0 0 l (Nat.succ c) + 32 * nm = cL nm 0 l (c + 1) := by unfold cL; omega
    rw [e1]
    have := VRel.sl (G := G') nm 0 l (c + 1) c w.heap.size 0 (c * i.size) i.size hG hnm (by omega) (by omega) (by omega) (by simp) hlc
    simpa using this
  · have hz2 := zrow_ok hc G'
    have hcel := Cel.pat (G := G') (zs := zv.cells.toList) ⟨rfl, hz2.1, hz2.2⟩ c
    have := newRow_rel (c := repR i.size (zrow zv.cells.toList) c) (cs := madeCells zv.cells (c * i.size)) (by rw [hcs]; exact hG) hw hsz fun j hj => by
      rw [hcs] at hj
      have hl2 : zv.cells.toList.length = i.size := by simpa using h1
      rw [hl2] at hcel
      have := hcel.rel j hj
      have e2 : (madeCells zv.cells (c * i.size)).getD j undef = ((List.replicate c zv.cells.toList).flatten).getD j undef := by
        rw [← hflat, Array.getD_eq_getD_getElem?, List.getD_eq_getElem?_getD, Array.getElem?_toList]
      rw [e2]
      exact this
    rw [hcs] at this
    exact this
/-- an entry with its proof -/
abbrev EP (P : Program) (N : Nat) (pl : List Value) (o : Oper) := { E : Ent // EntO P N pl o E }
noncomputable def EP.n {o : Oper} : EP P N pl o := ⟨.no, trivial⟩
noncomputable def EP.v {o : Oper} {f : V} (h : VS P N pl o f) : EP P N pl o := ⟨.v f, h⟩
noncomputable def EP.x {o : Oper} {f : CV} (h : XS P N pl o f) : EP P N pl o := ⟨.x f, h⟩
noncomputable def EP.a {o : Oper} {f : A} (h : AS P N pl o f) : EP P N pl o := ⟨.x (aX f), h.xs⟩

/-! ### keys' types -/
noncomputable def flP (P : Program) (F : TypeId → Option (List TypeDesc)) : List Field → Nat → Option (List TypeDesc)
  | [], _ => some []
  | f :: r, o => if f.name ≠ "_" ∧ f.offset = o then match F f.type with
    | some d1 => if szF P f.type = some d1.length then (flP P F r (o + d1.length)).map (d1 ++ ·) else none
    | none => none
    else none
theorem flP_ok {F : TypeId → Option (List TypeDesc)} {Q : TypeId → List TypeDesc → Prop} (hF : ∀ t ds, F t = some ds → Q t ds) : ∀ (l : List Field) (o : Nat) (ds : List TypeDesc), flP P F l o = some ds → FieldsT P Q l o ds := by
  intro l
  induction l with
  | nil =>
    intro o ds h
    have : ds = [] := by simp [flP] at h; exact h
    exact this
  | cons f r ih =>
    intro o ds h
    unfold flP at h
    split at h
    · rename_i hc
      split at h
      · rename_i d1 hd
        split at h
        · rename_i hp
          rw [Option.map_eq_some_iff] at h
          obtain ⟨d2, h1, rfl⟩ := h
          exact ⟨d1, d2, rfl, hc.1, hc.2, fZ hp, hF _ _ hd, ih _ _ h1⟩
        · cases h
      · cases h
    · cases h
noncomputable def flT (P : Program) : Nat → TypeId → Option (List TypeDesc)
  | 0, _ => none
  | n + 1, t => match undF P t with
    | some (.struct fs) => if P.stoodInHeld t = false then flP P (flT P n) fs.toList 0 else none
    | some d => if plD d = true then some [d] else none
    | none => none
theorem flT_ok : ∀ (n : Nat) (t : TypeId) (ds : List TypeDesc), flT P n t = some ds → FlatT P n t ds := by
  intro n
  induction n with
  | zero => intro t ds h; cases h
  | succ n ih =>
    intro t ds h
    unfold flT at h
    split at h
    · rename_i fs hu
      split at h
      · rename_i hs
        exact .inr ⟨fs, fU hu, hs, flP_ok ih _ _ _ h⟩
      · cases h
    · rename_i d hne hu
      split at h
      · rename_i hp
        injection h with h
        exact .inl ⟨d, fU hu, hp, h.symm⟩
      · cases h
    · cases h
noncomputable def keyOf (P : Program) (t : TypeId) : Option KD := match undF P t with
  | some (.struct fs) => if P.stoodInHeld t = false then (flP P (flT P 8) fs.toList 0).map KD.fl else none
  | some d => if plD d = true then some (.pl d) else none
  | none => none
theorem keyOf_ok {t : TypeId} {kd : KD} (h : keyOf P t = some kd) : KeyT P t kd := by
  unfold keyOf at h
  split at h
  · rename_i fs hu
    split at h
    · rename_i hs
      rw [Option.map_eq_some_iff] at h
      obtain ⟨ds, h1, rfl⟩ := h
      exact ⟨fs, fU hu, hs, flP_ok (flT_ok 8) _ _ _ h1⟩
    · cases h
  · rename_i d hne hu
    split at h
    · rename_i hp
      injection h with h
      subst h
      exact ⟨fU hu, hp⟩
    · cases h
  · cases h

/-! ### binary operations -/
noncomputable def binP (op : BinOp) (t : TypeId) (x y : Operand) (u : TypeId) : EP P N pl ⟨dst, .binOp op t x y u, ty, ps, af, gd⟩ :=
  match h : undF P t with
  | some (.int k) => match op with
    | .add => .v (add_ok k)
    | .sub => .v (sub_ok k)
    | .mul => .v (mul_ok k)
    | .quo => .v (quo_ok k)
    | .rem => .v (orV_ok (rem_ok k) (rem2_ok k))
    | .and => .v (and_ok k)
    | .or => .v (or_ok k)
    | .xor => .v (xor_ok k)
    | .andNot => .v (andNot_ok k)
    | .eql => .v (eql_ok k)
    | .neq => .v (neq_ok k)
    | .lss => .v (lss_ok k)
    | .leq => .v (leq_ok k)
    | .gtr => .v (gtr_ok k)
    | .geq => .v (geq_ok k)
    | .shl => match undF P u with
      | some (.int k') => .v (shl_ok k k')
      | _ => .n
    | .shr => match undF P u with
      | some (.int k') => .v (shr_ok k k')
      | _ => .n
  | some .string => match op with
    | .add => .v addT_ok
    | .eql => .v eqlT_ok
    | .neq => .v neqT_ok
    | _ => .n
  | some .bool => match op with
    | .eql => .v (eqlB_ok (fU h))
    | .neq => .v (neqB_ok (fU h))
    | _ => .n
  | some (.pointer el) => match op with
    | .eql => .v (eqlP_ok (fU h))
    | .neq => match hs : szF P el with
      | some k => .v (orV_ok (neqP_ok (fU h)) (eqSameP_ok (fU h) (fZ hs)))
      | none => .v (neqP_ok (fU h))
    | _ => .n
  | some (.slice el) => match op with
    | .eql => .v (eqlNil_ok (fU h))
    | .neq => .v (neqNil_ok (fU h))
    | _ => .n
  | some (.struct fs) => match hk : keyOf P t with
    | some (.fl ds) => if hg : P.eqGuardType P.depth t = false then match op with
        | .eql => .v (eqlA_ok (keyOf_ok hk) hg)
        | .neq => .v (neqA_ok (keyOf_ok hk) hg)
        | _ => .n
      else .n
    | _ => .n
  | _ => .n
noncomputable def unP (op : UnOp) (t : TypeId) (x : Operand) : EP P N pl ⟨dst, .unOp op t x, ty, ps, af, gd⟩ := match op with
  | .not => .v not_ok
  | .neg => match undF P t with
    | some (.int k) => .v (neg_ok k)
    | _ => .n
  | _ => .n
noncomputable def cvP (t u : TypeId) (x : Operand) : EP P N pl ⟨dst, .convert t u x, ty, ps, af, gd⟩ :=
  match h : undF P t with
  | some (.int k) => match h2 : undF P u with
    | some (.int k') => .v (conv_ok (fU h) (fU h2))
    | _ => .n
  | some .string => match h2 : undF P u with
    | some (.slice e) => match h3 : undF P e with
      | some (.int .u8) => if hs : szF P e = some 1 then .v (t2b_ok (fU h) (fU h3) (fU h2) (fZ hs)) else .n
      | _ => .n
    | _ => .n
  | some (.slice e) => match h3 : undF P e with
    | some (.int .u8) => match h2 : undF P u with
      | some .string => .v (b2t_ok (fU h) (fU h3) (fU h2))
      | some (.slice _) => if hu : t = u then hu ▸ .x (s2s_ok (fU h) (fU h3)) else .n
      | _ => .n
    | _ => .n
  | some (.pointer tt) => match h2 : undF P u with
    | some .unsafePointer => match hs : szF P tt with
      | some (k + 1) => .v (p2u_ok (fU h) (fU h2) (fZ hs))
      | _ => .n
    | _ => .n
  | some .unsafePointer => match h2 : undF P u with
    | some (.pointer tt) => match hs : szF P tt with
      | some k => .v (u2p_ok (fU h) (fU h2) (fZ hs))
      | none => .n
    | _ => .n
  | _ => .n
/-! ### memory -/
noncomputable def ldP (t : TypeId) (x : Operand) : EP P N pl ⟨dst, .load t x, ty, ps, af, gd⟩ := match h : undF P t with
  | some d => if hd : d.isRow = false then .v (ld1_ok (fU h) hd) else match hs : szF P t with
    | some sz => .v (ldA_ok (fU h) (by simpa using hd) (fZ hs))
    | none => .n
  | none => .n
noncomputable def stP (t : TypeId) (x y : Operand) : EP P N pl ⟨dst, .store t x y, ty, ps, af, gd⟩ := match h : undF P t with
  | some d => if d.isRow = false then (if hs : szF P t = some 1 then .a (st1_ok (fZ hs)) else .n) else match hs : szF P t with
    | some sz => .a (stA_ok (fZ hs))
    | none => .n
  | none => .n
noncomputable def bxP (t : TypeId) (x : Operand) : EP P N pl ⟨dst, .box t x, ty, ps, af, gd⟩ := match h : undF P t with
  | some d => match hs : szF P t with
    | some sz => if d.isRow = false then .v (box1_ok (fZ hs)) else .v (boxA_ok (fZ hs))
    | none => .n
  | none => .n
noncomputable def faP (t : TypeId) (x : Operand) (i : Nat) : EP P N pl ⟨dst, .fieldAddr t x i, ty, ps, af, gd⟩ := match h : undF P t with
  | some (.struct fs) => match hi : fs[i]? with
    | some fld => match hs : szF P fld.type with
      | some (s + 1) => .v (fa_ok (fU h) hi (fZ hs))
      | _ => .n
    | none => .n
  | _ => .n
noncomputable def alP (t : TypeId) : EP P N pl ⟨dst, .alloc t, ty, ps, af, gd⟩ := match hz : zerF P t with
  | some zv => if ho : okZ zv.cells.toList = true then match hs : szF P t with
      | some sz => .v (alloc_ok (fY hz) ho (fZ hs))
      | none => .n
    else .n
  | none => .n
noncomputable def bldP (P : Program) (t : TypeId) : Option ((Nat → Option (Nat × Nat)) × List Value) := match tyF P t, undF P t with
  | some it, some (.array _ e) => match it.zero, tyF P e with
    | some z, some ie => some (fun i => some (i * ie.size, ie.size), z.cells.toList)
    | _, _ => none
  | some it, some (.struct fields) => match it.zero, fields.toList.mapM (fun f => (tyF P f.type).map fun i => (f.offset, i.size)) with
    | some z, some places => some ((places.toArray[·]?), z.cells.toList)
    | _, _ => none
  | _, _ => none
theorem bldP_ok {t : TypeId} {pc : Nat → Option (Nat × Nat)} {zs : List Value} (h : bldP P t = some (pc, zs)) (vs : List (Nat × Value)) : P.built t vs = Instr.fill pc zs.toArray vs := by
  unfold bldP at h
  unfold Program.built
  split at h
  · rename_i it e h1 h2
    rw [fI h1, fU h2]
    simp only
    split at h
    · rename_i z ie h3 h4
      rw [h3, fI h4]
      simp only [Option.some.injEq, Prod.mk.injEq] at h
      obtain ⟨rfl, rfl⟩ := h
      simp
    · cases h
  · rename_i it fields h1 h2
    rw [fI h1, fU h2]
    simp only
    split at h
    · rename_i z places h3 h4
      have h5 := mapM_mono (g := fun f : Field => (P.info? f.type).map fun i => (f.offset, i.size)) (fun a b hab => fJ hab) _ _ h4
      rw [h3, h5]
      simp only [Option.some.injEq, Prod.mk.injEq] at h
      obtain ⟨rfl, rfl⟩ := h
      simp
    · cases h
  · cases h
noncomputable def buP (t : TypeId) (parts : Array (Nat × Operand)) : EP P N pl ⟨dst, .build t parts, ty, ps, af, gd⟩ := match h : bldP P t with
  | some (pc, zs) => if ho : okZ zs = true then .v (build_ok (bldP_ok h) ho) else .n
  | none => .n
theorem bs_flat {zv : Value} {len sz : Nat} (h : zv.cells.size = sz) : ((Array.range (len * sz)).map fun j => zv.cells[j % zv.cells.size]!) = (List.replicate len zv.cells.toList).flatten.toArray := by
  subst h
  apply Array.ext'
  rw [← zeroCells_flat]
  rfl
noncomputable def bsP (t : TypeId) (len : Nat) (parts : Array (Nat × Operand)) : EP P N pl ⟨dst, .buildSlice t len parts, ty, ps, af, gd⟩ := match h : undF P t with
  | some (.slice el) => match len, parts with
    | 0, ⟨[]⟩ => match hs : szF P el with
      | some sz => .v (bs0_ok (fU h) (fZ hs))
      | none => .n
    | len, parts => match hi : (tyF P el).map (fun i => (i.zero, i.size)) with
      | some (some zv, sz) => if h1 : Nat.ble (len * sz) 16777216 = true then
          if h2 : Nat.beq (len * sz) 0 = false then
            if h3 : zv.cells.size = sz then
              if h4 : okZ (List.replicate len zv.cells.toList).flatten = true then .v (bsl_ok (fU h) (fJ hi) h1 h2 (bs_flat h3) h4) else .n
            else .n
          else .n
        else .n
      | _ => .n
  | _ => .n
theorem cells1 {zv : Value} (h : zv.cells.toList.length = 1) (h2 : zcode zv ≠ 0) : zv.cells = #[zv] := by
  obtain ⟨_, h3⟩ := zcode_ok h2
  cases zv <;> first | rfl | (simp [Value.oneCell'] at h3)
noncomputable def msP (t : TypeId) (x y : Operand) : EP P N pl ⟨dst, .makeSlice t x y, ty, ps, af, gd⟩ := match h : undF P t with
  | some (.slice el) => match hi : tyF P el with
    | some i => match hz : i.zero with
      | some zv => if h1 : i.size = 1 then if h2 : zcode zv ≠ 0 then if h3 : zv.cells.toList.length = 1 then if hb : i.bytes ≤ 1000 then .v (mkS_ok (fU h) (fI hi) hz h1 (cells1 h3 h2) h2 hb) else .n else .n else .n else
        if h2 : zv.cells.size = i.size then if h3 : okZ zv.cells.toList = true then if hb : i.bytes ≤ 1000 then if hs : i.size ≤ 1000 then .v (mkSA_ok (fU h) (fI hi) hz h2 h3 hb hs) else .n else .n else .n else .n
      | none => .n
    | none => .n
  | _ => .n
noncomputable def slP (t : TypeId) (x : Operand) (lo hi mx : Option Operand) : EP P N pl ⟨dst, .slice t x lo hi mx, ty, ps, af, gd⟩ := match h : undF P t with
  | some .string => match lo, hi, mx with
    | some y, some z, none => .v (slT_ok (fU h))
    | some y, none, none => .v (slTlo_ok (fU h))
    | none, some y, none => .v (slThi_ok (fU h))
    | _, _, _ => .n
  | some (.slice el) => match hs : szF P el with
    | some sz => match lo, hi, mx with
      | some y, some z, none => .v (orV_ok (slL_ok (fU h) (fZ hs)) (slt_ok (fU h) (fZ hs)))
      | some y, none, none => .v (slLlo_ok (fU h) (fZ hs))
      | none, some y, none => .v (orV_ok (slLhi_ok (fU h) (fZ hs)) (slth_ok (fU h) (fZ hs)))
      | some y, some z, some v3 => .v (sl3_ok (fU h) (fZ hs))
      | _, _, _ => .n
    | none => .n
  | _ => .n
noncomputable def iaP (t : TypeId) (x y : Operand) : EP P N pl ⟨dst, .indexAddr t x y, ty, ps, af, gd⟩ := match h : undF P t with
  | some (.slice el) => match hs : szF P el with
    | some sz => .v (ia_ok (fU h) (fZ hs))
    | none => .n
  | some (.array m el) => match hs : szF P el with
    | some sz => .v (iar_ok (fU h) (fZ hs))
    | none => .n
  | _ => .n
noncomputable def ixP (t : TypeId) (x y : Operand) : EP P N pl ⟨dst, .index t x y, ty, ps, af, gd⟩ := match h : undF P t with
  | some .string => .v (ixT_ok (fU h))
  | _ => .n
/-! ### maps -/
noncomputable def lkP (t : TypeId) (x y : Operand) (ok : Bool) : EP P N pl ⟨dst, .lookup t x y ok, ty, ps, af, gd⟩ := match h : undF P t with
  | some (.map kt el) => match hk : keyOf P kt with
    | some kd => match hz : zerF P el with
      | some zv => .v (lk_ok (fU h) (keyOf_ok hk) (fY hz))
      | none => .n
    | none => .n
  | _ => .n
noncomputable def muP (t : TypeId) (x y z : Operand) : EP P N pl ⟨dst, .mapUpdate t x y z, ty, ps, af, gd⟩ := match h : undF P t with
  | some (.map kt el) => match hk : keyOf P kt with
    | some kd => .a (mu_ok (fU h) (keyOf_ok hk))
    | none => .n
  | _ => .n
noncomputable def inP (t : TypeId) (x y z : Operand) : EP P N pl ⟨dst, .insert t x y z, ty, ps, af, gd⟩ := match h : undF P t with
  | some (.map kt el) => match hk : keyOf P kt with
    | some kd => .a (ins_ok (fU h) (keyOf_ok hk))
    | none => .n
  | _ => .n
noncomputable def rgP (t : TypeId) (x : Operand) : EP P N pl ⟨dst, .range t x, ty, ps, af, gd⟩ := match h : undF P t with
  | some .string => .v (rgS_ok (fU h))
  | some (.map kt el) => .v (rgM_ok (fU h))
  | _ => .n
noncomputable def nxP (x : Operand) (b : Bool) : EP P N pl ⟨dst, .next x b, ty, ps, af, gd⟩ := match b with
  | true => .x nxS_ok
  | false => .x nxM_ok
/-! ### calls -/
noncomputable def apP (x y : Operand) (t u : TypeId) : EP P N pl ⟨dst, .call { callee := .builtin .append, args := #[x, y], argTypes := #[t, u] }, ty, ps, af, gd⟩ := match h : undF P t with
  | some (.slice el) => match hi : tyF P el with
    | some i => match hz : i.zero with
      | some zv => if hb : i.bytes ≤ 10000 then match hu : undF P u with
          | some (.slice el2) => if h1 : zv.cells.size = i.size then if h2 : 0 < i.size then .x (apS_ok (fU h) (fU hu) (fI hi) hz h1 hb h2) else .n else .n
          | some .string => if h1 : zv.cells.size = i.size then if h2 : i.size = 1 then .x (apTx_ok (fU h) (fU hu) (fI hi) hz h1 hb h2) else .n else .n
          | some (.int k) => if h1 : i.size = 1 then if h2 : zcode zv ≠ 0 then if h3 : zv.cells.toList.length = 1 then .x (apM_ok (fU h) (fU hu) (fI hi) hz (cells1 h3 h2) hb h1 h2) else .n else .n else .n
          | _ => .n
        else .n
      | none => .n
    | none => .n
  | _ => .n
noncomputable def lnP (x : Operand) (t : TypeId) : EP P N pl ⟨dst, .call { callee := .builtin .len, args := #[x], argTypes := #[t] }, ty, ps, af, gd⟩ := match h : undF P t with
  | some (.slice el) => .v (lenL_ok (fU h))
  | some .string => .v (lenS_ok (fU h))
  | some (.map k e) => .v (lenM_ok (fU h))
  | _ => .n
noncomputable def cpP (x : Operand) (t : TypeId) : EP P N pl ⟨dst, .call { callee := .builtin .cap, args := #[x], argTypes := #[t] }, ty, ps, af, gd⟩ := match h : undF P t with
  | some (.slice el) => .v (cap_ok (fU h))
  | _ => .n
noncomputable def mnP (x y : Operand) (t u : TypeId) : EP P N pl ⟨dst, .call { callee := .builtin .min, args := #[x, y], argTypes := #[t, u] }, ty, ps, af, gd⟩ := match undF P t with
  | some (.int k) => .v (min_ok k)
  | _ => .n
noncomputable def mxP (x y : Operand) (t u : TypeId) : EP P N pl ⟨dst, .call { callee := .builtin .max, args := #[x, y], argTypes := #[t, u] }, ty, ps, af, gd⟩ := match undF P t with
  | some (.int k) => .v (max_ok k)
  | _ => .n
noncomputable def coP (x y : Operand) (t u : TypeId) : EP P N pl ⟨dst, .call { callee := .builtin .copy, args := #[x, y], argTypes := #[t, u] }, ty, ps, af, gd⟩ := match h : undF P t with
  | some (.slice el) => match hi : tyF P el with
    | some i => .x (cp_ok (fU h) (fI hi))
    | none => .n
  | _ => .n
noncomputable def clP (x : Operand) (t : TypeId) : EP P N pl ⟨dst, .call { callee := .builtin .clear, args := #[x], argTypes := #[t] }, ty, ps, af, gd⟩ := match h : undF P t with
  | some (.slice el) => match hz : zerF P el with
    | some zv => if ho : okZ zv.cells.toList = true then .x (cl_ok (fU h) (fY hz) (by simp) ho) else .n
    | none => .n
  | _ => .n
noncomputable def deP (x y : Operand) (t u : TypeId) : EP P N pl ⟨dst, .call { callee := .builtin .delete, args := #[x, y], argTypes := #[t, u] }, ty, ps, af, gd⟩ := match h : undF P t with
  | some (.map kt el) => match hk : keyOf P kt with
    | some kd => .x (dl_ok (fU h) (keyOf_ok hk))
    | none => .n
  | _ => .n
noncomputable def usP (x y : Operand) (t u : TypeId) : EP P N pl ⟨dst, .call { callee := .builtin .unsafeString, args := #[x, y], argTypes := #[t, u] }, ty, ps, af, gd⟩ := match h : undF P t with
  | some (.pointer e) => match h2 : undF P e with
    | some (.int .u8) => if hc : P.cellsOf e = 1 then .x (us_ok (fU h) (fU h2) hc) else .n
    | _ => .n
  | _ => .n
noncomputable def biP (b : Builtin) (xs : Array Operand) (ts : Array TypeId) : EP P N pl ⟨dst, .call { callee := .builtin b, args := xs, argTypes := ts }, ty, ps, af, gd⟩ := match b, xs, ts with
  | .append, ⟨[x, y]⟩, ⟨[t, u]⟩ => apP x y t u
  | .len, ⟨[x]⟩, ⟨[t]⟩ => lnP x t
  | .cap, ⟨[x]⟩, ⟨[t]⟩ => cpP x t
  | .min, ⟨[x, y]⟩, ⟨[t, u]⟩ => mnP x y t u
  | .max, ⟨[x, y]⟩, ⟨[t, u]⟩ => mxP x y t u
  | .copy, ⟨[x, y]⟩, ⟨[t, u]⟩ => coP x y t u
  | .clear, ⟨[x]⟩, ⟨[t]⟩ => clP x t
  | .delete, ⟨[x, y]⟩, ⟨[t, u]⟩ => deP x y t u
  | .unsafeSliceData, ⟨[x]⟩, ts => .v sd_ok
  | .unsafeString, ⟨[x, y]⟩, ⟨[t, u]⟩ => usP x y t u
  | _, _, _ => .n
noncomputable def exP (hE : ExtT P e8 ex) (f : Nat) (xs : Array Operand) (ts : Array TypeId) (n : Nat) (hn : ex f = n) : EP P N pl ⟨dst, .call { callee := .value (.func f), args := xs, argTypes := ts }, ty, ps, af, gd⟩ := match n, xs with
  | 1, ⟨[x]⟩ => .v (ex1_ok hE hn)
  | 2, ⟨[x, y]⟩ => .v (ex2_ok hE hn)
  | 3, ⟨[x]⟩ => if hs : szF P e8 = some 1 then .x (ex3_ok hE hn (fZ hs)) else .n
  | _, _ => .n
noncomputable def caP (hen : EnS P en) (hE : ExtT P e8 ex) (c : Call) : EP P N pl ⟨dst, .call c, ty, ps, af, gd⟩ := match c with
  | ⟨.value (.func f), xs, ts⟩ => match hn : ex f with
    | 0 => .x (call_ok hen)
    | n + 1 => exP hE f xs ts (n + 1) hn
  | ⟨.value x, xs, ts⟩ => .x (callV_ok hen)
  | ⟨.builtin b, xs, ts⟩ => biP b xs ts
  | _ => .n
noncomputable def mfP (f : Fn) (xs ys : Array Operand) : EP P N pl ⟨dst, .makeFunc f xs ys, ty, ps, af, gd⟩ := match f with
  | .func f => .v mkF_ok
  | _ => .n
noncomputable def opP (hen : EnS P en) (hE : ExtT P e8 ex) (op : Op) : EP P N pl ⟨dst, op, ty, ps, af, gd⟩ := match op with
  | .move x => .v move_ok
  | .assign x => .v assign_ok
  | .pick x y z => .v pick_ok
  | .alloc t => alP t
  | .box t x => bxP t x
  | .build t parts => buP t parts
  | .buildSlice t len parts => bsP t len parts
  | .insert t x y z => inP t x y z
  | .load t x => ldP t x
  | .store t x y => stP t x y
  | .nilCheck x => .v nc_ok
  | .binOp op t x y u => binP op t x y u
  | .unOp op t x => unP op t x
  | .convert t u x => cvP t u x
  | .makeFunc f xs ys => mfP f xs ys
  | .makeMap t none => .v mkMap_ok
  | .makeSlice t x y => msP t x y
  | .slice t x lo hi mx => slP t x lo hi mx
  | .fieldAddr t x i => faP t x i
  | .indexAddr t x y => iaP t x y
  | .index t x y => ixP t x y
  | .lookup t x y ok => lkP t x y ok
  | .mapUpdate t x y z => muP t x y z
  | .range t x => rgP t x
  | .next x b => nxP x b
  | .entry x => .v en_ok
  | .extract x i => .v ext_ok
  | .call c => caP hen hE c
  | _ => .n
/-- an operation's entry, with its guard -/
noncomputable def entsP (hen : EnS P en) (hE : ExtT P e8 ex) (pl : List Value) : Ents := fun N ops o => gEnt N ops o (opP (P := P) (N := N) (pl := pl) (dst := o.dst) (ty := o.type) (ps := o.pos) (af := o.after) (gd := o.guard) hen hE o.op).val
theorem entsP_ok (hen : EnS P en) (hE : ExtT P e8 ex) : ∀ N ops o, EntS P N pl ops o (entsP hen hE pl N ops o) := fun N ops o => gEnt_ok (opP (P := P) (N := N) (pl := pl) (dst := o.dst) (ty := o.type) (ps := o.pos) (af := o.after) (gd := o.guard) hen hE o.op).property
end Go.Ev
end
section
/- The evaluator's word: a call with given codes comes to true. -/
set_option linter.all false
namespace Go.Ev
open Go Go.RowKit Go.Hub
variable {P : Program} {N : Nat} {pl : List Value} {en e8 : Nat} {ex : Nat → Nat}

noncomputable def objV : Value → Obj
  | .string s => .txt s.data.size (rowB s.data.toList)
  | .func (.func f) ⟨[]⟩ ⟨[]⟩ => .clo f 0 0 0 0
  | .agg cs => cond (okZ cs.toList) (.imm cs.toList.length (zrow cs.toList)) .none
  | _ => .none
def poolG (pl : List Value) : Gh := fun i => (pl[i]?).map Den.val
noncomputable def poolL (l : List Value) : Nat → Tr → Tr := List.rec (fun _ h => h) (fun v _ ih i h => ih (i + 1) (h.set i (objV v))) l
noncomputable def poolH (pl : List Value) : Tr := poolL pl 0 .leaf
theorem poolL_get : ∀ (l : List Value) (i : Nat) (h : Tr) (k : Nat), i + l.length < 1000000000 → (poolL l i h).get k = if i ≤ k ∧ k < i + l.length then objV (l.getD (k - i) undef) else h.get k := by
  intro l
  induction l with
  | nil =>
    intro i h k _
    rw [if_neg (by simp only [List.length_nil]; omega)]
    rfl
  | cons v l ih =>
    intro i h k hb
    simp only [List.length_cons] at hb ⊢
    show (poolL l (i + 1) (h.set i (objV v))).get k = _
    rw [ih (i + 1) _ k (by omega), Tr.get_set _ _ _ (by omega)]
    by_cases h1 : k = i
    · subst h1
      rw [if_neg (by omega), if_pos rfl, if_pos (by omega), Nat.sub_self]
      rfl
    · by_cases h2 : i + 1 ≤ k ∧ k < i + 1 + l.length
      · rw [if_pos h2, if_pos (by omega), show k - i = (k - (i + 1)) + 1 from by omega]
        rfl
      · rw [if_neg h2, if_neg h1, if_neg (by omega)]
theorem getD_list' (cs : Array Value) (i : Nat) : cs.getD i undef = cs.toList.getD i undef := by rw [Array.getD_eq_getD_getElem?, List.getD_eq_getElem?_getD, Array.getElem?_toList]
theorem objV_ok {G : Gh} {nm : Nat} {v : Value} {w : World} (hG : G nm = some (.val v)) : ORel P G nm w (objV v) := by
  unfold objV
  split
  · exact ⟨_, hG, rfl, rfl⟩
  · exact ⟨#[], #[], hG, rfl, rfl, fun i hi => absurd hi (Nat.not_lt_zero _), fun i hi => absurd hi (Nat.not_lt_zero _)⟩
  · rename_i cs
    cases ho : okZ cs.toList with
    | false => trivial
    | true =>
      obtain ⟨h1, h2⟩ := zrow_ok ho G
      exact ⟨cs, hG, by simp, h1, fun i hi => by rw [getD_list' cs]; exact h2 i hi⟩
  · trivial
theorem pool_rel (hl : pl.length < 16000000) (w : World) : Rel P ⟨fun _ => none, w.os, w.output⟩ (fun _ => none) (poolG pl) (poolH pl) pl.length w := by
  have gt : ∀ k, (poolH pl).get k = if k < pl.length then objV (pl.getD k undef) else .none := fun k => by
    unfold poolH
    rw [poolL_get pl 0 _ k (by omega)]
    by_cases h : k < pl.length
    · rw [if_pos (by omega), if_pos h, Nat.sub_zero]
    · rw [if_neg (by omega), if_neg h]; rfl
  have gv : ∀ k b s t z, poolG pl k ≠ some (.blk b s t z) := fun k b s t z h => by
    unfold poolG at h
    cases hq : pl[k]? with
    | none => rw [hq] at h; cases h
    | some v => rw [hq] at h; cases h
  have gn : ∀ k, pl.length ≤ k → poolG pl k = none := fun k hk => by unfold poolG; rw [List.getElem?_eq_none hk]; rfl
  refine ⟨fun k hg => ?_, fun n1 n2 b s1 t1 z1 s2 t2 z2 g1 => absurd g1 (gv _ _ _ _ _), fun b o e => (by cases e), fun k o e => (by cases e), gn, fun k b s t z e => absurd e (gv _ _ _ _ _), by omega, fun k hk => by rw [gt, if_neg (by omega)], rfl, rfl⟩
  rw [gt]
  by_cases h : k < pl.length
  · rw [if_pos h]
    refine objV_ok ?_
    unfold poolG
    rw [List.getElem?_eq_getElem h, List.getD_eq_getElem?_getD, List.getElem?_eq_getElem h]
    rfl
  · exact absurd (gn k (by omega)) hg
theorem pool_ok (hl : pl.length < 16000000) : Pool pl (poolG pl) := ⟨by omega, fun i v h => by unfold poolG; rw [h]; rfl⟩
/-- all ways come to this code -/
noncomputable def allT (n : Nat) (f : Nat → Bool) : Bool := Nat.rec true (fun j ih => Bool.rec false ih (f j)) n
theorem allT_ok {f : Nat → Bool} : ∀ n, allT n f = true → ∀ i, i < n → f i = true := by
  intro n
  induction n with
  | zero => intro _ i hi; omega
  | succ n ih =>
    intro h i hi
    have h : Bool.rec false (allT n f) (f n) = true := h
    cases hf : f n with
    | false => rw [hf] at h; cases h
    | true =>
      rw [hf] at h
      rcases Nat.lt_or_ge i n with q | q
      · exact ih h i q
      · have : i = n := by omega
        subst this; exact hf
noncomputable def okT (c : Nat) (t : T) : Bool := T.rec (fun d _ _ => Nat.beq d c) (fun n _ ih => allT n ih) false t
theorem okT_ok {c : Nat} : ∀ t, okT c t = true → Tall (fun d _ _ => d = c) t := by
  intro t
  induction t with
  | done d h nx => intro h; exact Nat.eq_of_beq_eq_true h
  | fail => intro h; cases h
  | ask n k ih => intro h i hi; exact ih i (allT_ok n h i hi)
noncomputable def extC (col : Nat → Bool) : Ext := ⟨fun _ => false, call0, col⟩
theorem extC_ok {col : Nat → Bool} : ExtS P pl (extC col) := fun φ pb pn G h nx w f e0 args kv R hf => by cases hf
noncomputable def doneK : KV := fun c _ _ => .done c .leaf 0
noncomputable def runT (gd : Nat) (pt : Nat → PT) (hen : EnS P en) (hE : ExtT P e8 ex) (pl : List Value) (x : Ext) (f n e : Nat) : T := callN P gd (fun f => regOf (entsP hen hE pl) (pt f)) x 1000 f n e (poolH pl) pl.length doneK
theorem run_true {gd : Nat} {pt : Nat → PT} (hm : P.follows .mixedOrders = true) (hen : EnS P en) (hE : ExtT P e8 ex) (hg : GoodS P gd fun f => goodR (entsP hen hE pl) (pt f)) {x : Ext} (hx : ExtS P pl x) (hl : pl.length < 16000000) {f : Nat} {cs : List Nat} {vs : Array Value} (hs : cs.length = vs.size) (hv : ∀ i, i < vs.size → ∀ G, VRel G (cs.getD i 0) (vs.getD i undef))
    (H : okT 33 (runT gd pt hen hE pl x f cs.length (frm 1 (rowL cs) f)) = true) (w : World) : Calls P f vs w fun e _ => e = .returned (.bool true) := by
  have hlt : ∀ c ∈ cs, c < 2 ^ 96 := fun c hc => by
    obtain ⟨i, hi, rfl⟩ := List.mem_iff_getElem.1 hc
    have := (hv i (by omega) (fun _ => none)).lt
    rwa [List.getD_eq_getElem?_getD, List.getElem?_eq_getElem hi] at this
  have C := callN_ok (P := P) (pl := pl) (fun f => regOf_ok hm (pt f) (entsP_ok (pl := pl) hen hE)) hg hx 1000
  rw [hs] at H
  refine C (fun d _ _ => d = 33) ⟨fun _ => none, w.os, w.output⟩ (fun _ => none) (poolG pl) (poolH pl) pl.length w f (frm 1 (rowL cs) f) vs doneK _ (pool_rel hl w) (pool_ok hl) (fun i hi => ?_) (fun i hi => ?_) (okT_ok _ H) (fun G' h' nx' w' c v g R hv hc => ?_)
  · rw [gF_frm, getS_rowL cs hlt]; exact hv i hi _
  · rw [gF_frm, getS_rowL cs hlt, List.getD_eq_getElem?_getD, List.getElem?_eq_none (by omega)]; rfl
  · have hc : c = 33 := hc
    subst hc
    obtain ⟨b, rfl, hb⟩ := hv.inv_bool (by decide)
    cases b
    · cases hb
    · rfl
/-- functions that are entered: a look at each of them -/
noncomputable def entB (P : Program) (f : Nat) : Bool := match P.funcs[f]? with
  | some fn => match fn.body with
    | some _ => not (fn.name == "runtime.NumGoroutine")
    | none => false
  | none => false
theorem entB_ok {f : Nat} (h : entB P f = true) (args : Array Value) (w : World) : (callFunc f args).run P w = .ok (.enter f args) w := by
  unfold entB at h
  split at h
  · rename_i fn hf
    split at h
    · rename_i c hc
      have h1 : ¬ fn.name = "runtime.NumGoroutine" := by simpa using h
      simp [callFunc, hf, h1, hc]
    · cases h
  · cases h
noncomputable def entA (P : Program) (en n : Nat) : Bool := Nat.rec true (fun f ih => Bool.rec false ih (Bool.rec true (entB P f) (bitAt en f))) n
theorem entA_ok {n : Nat} (h : entA P en n = true) (hb : Nat.blt en (2 ^ n) = true) : EnS P en := by
  have key : ∀ n, entA P en n = true → ∀ f, f < n → bitAt en f = true → entB P f = true := by
    intro n
    induction n with
    | zero => intro _ f hf; omega
    | succ n ih =>
      intro h f hf hbit
      have h : Bool.rec false (entA P en n) (Bool.rec true (entB P n) (bitAt en n)) = true := h
      cases hc : (Bool.rec true (entB P n) (bitAt en n) : Bool) with
      | false => rw [hc] at h; cases h
      | true =>
        rw [hc] at h
        rcases Nat.lt_or_ge f n with q | q
        · exact ih h f q hbit
        · have : f = n := by omega
          subst this
          rw [hbit] at hc
          exact hc
  intro f hf args w
  refine entB_ok (key n h f ?_ hf) args w
  rcases Nat.lt_or_ge f n with q | q
  · exact q
  · exfalso
    have hen : en < 2 ^ n := blt_ok hb
    have hz : Nat.shiftRight en f = 0 := by
      show en >>> f = 0
      rw [Nat.shiftRight_eq_div_pow]
      exact Nat.div_eq_of_lt (Nat.lt_of_lt_of_le hen (Nat.pow_le_pow_right (by omega) q))
    unfold bitAt at hf
    rw [hz] at hf
    cases hf
/-- the regions of the functions from a on, n of them, those that gd names -/
noncomputable def goodF (P : Program) (good : GoodE) (f : Nat) : Bool := Option.rec true (fun fn => Option.rec true (fun c => okC good fn.ntmps c) fn.body) (nth P.funcs.toList f)
noncomputable def goodA (P : Program) (gd : Nat) (good : Nat → GoodE) (a n : Nat) : Bool := Nat.rec true (fun j ih => Bool.rec false ih (Bool.rec true (goodF P (good (Nat.add a j)) (Nat.add a j)) (bitAt gd (Nat.add a j)))) n
theorem goodA_ok {gd : Nat} {good : Nat → GoodE} {a : Nat} : ∀ n, goodA P gd good a n = true → ∀ f, a ≤ f → f < a + n → bitAt gd f = true → ∀ fn c, P.funcs[f]? = some fn → fn.body = some c → okC (good f) fn.ntmps c = true := by
  intro n
  induction n with
  | zero => intro _ f h1 h2; omega
  | succ n ih =>
    intro h f h1 h2 hb fn c hf hc
    have h : (Bool.rec false (goodA P gd good a n) (Bool.rec true (goodF P (good (a + n)) (a + n)) (bitAt gd (a + n))) : Bool) = true := h
    obtain ⟨h3, h4⟩ := bAnd h
    rcases Nat.lt_or_ge f (a + n) with q | q
    · exact ih h4 f h1 q hb fn c hf hc
    · have : f = a + n := by omega
      subst this
      rw [hb] at h3
      have h3 : goodF P (good (a + n)) (a + n) = true := h3
      unfold goodF at h3
      rw [nth_eq, Array.getElem?_toList, hf] at h3
      have h3 : (Option.rec true (fun c => okC (good (a + n)) fn.ntmps c) fn.body : Bool) = true := h3
      rw [hc] at h3
      exact h3
end Go.Ev
end
section
/- A call with given codes, on its own: what it comes to, whatever the world; it may stand for itself in greater runs. -/
set_option linter.all false
namespace Go.Ev
open Go Go.RowKit Go.Hub
variable {P : Program} {pl : List Value} {en e8 : Nat} {ex : Nat → Nat}
theorem pool_relF (hl : pl.length < 16000000) (w : World) : Rel P (pbF w) (fun _ => none) (poolG pl) (poolH pl) pl.length w := by
  have R := pool_rel (P := P) hl w
  refine ⟨R.obj, R.inj, fun b o e => ⟨e, fun nm s t z g => ?_⟩, R.pn, R.fresh, R.bd, R.nxb, R.non, rfl, rfl⟩
  unfold poolG at g
  cases hq : pl[nm]? with
  | none => rw [hq] at g; cases g
  | some v => rw [hq] at g; cases g
/-- nothing that was there has turned -/
structure Kept (w w' : World) : Prop where
  os : w'.os = w.os
  out : w'.output = w.output
  blk : ∀ b, b < w.heap.size → w'.heap[b]? = w.heap[b]?
theorem Rel.kept {G : Gh} {h : Tr} {nx : Nat} {pn : Nat → Option Obj} {w w' : World} (R : Rel P (pbF w) pn G h nx w') : Kept w w' :=
  ⟨R.oo.1, R.oo.2, fun b hb => by rw [(R.pb b w.heap[b] (by show w.heap[b]? = _; rw [Array.getElem?_eq_getElem hb])).1, Array.getElem?_eq_getElem hb]⟩
theorem Kept.frame {w w' : World} (h : Kept w w') (may : MemPlace → Prop) : w.keptBut w' may := by
  refine ⟨h.os, h.out, fun i hi => ?_⟩
  rw [h.blk i hi]
  split <;> simp_all
/-- what a call comes to, all blocks of before staying as they are -/
def Seal (P : Program) (f : Nat) (cs : List Nat) (d : Nat) : Prop := ∀ (vs : Array Value) w, cs.length = vs.size → (∀ i, i < vs.size → ∀ G, VRel G (cs.getD i 0) (vs.getD i undef)) → Calls P f vs w fun e w' => ∃ v, e = .returned v ∧ (∀ G, VRel G d v) ∧ Kept w w' ∧ ∀ pb pn G h nx, Rel P pb pn G h nx w → Rel P pb pn G h nx w'
theorem seal_ok {gd : Nat} {pt : Nat → PT} (hm : P.follows .mixedOrders = true) (hen : EnS P en) (hE : ExtT P e8 ex) (hg : GoodS P gd fun f => goodR (entsP hen hE pl) (pt f)) {x : Ext} (hx : ExtS P pl x) (hl : pl.length < 16000000) {f d : Nat} {cs : List Nat} (hd : isPl d = true)
    (H : okT d (runT gd pt hen hE pl x f cs.length (frm 1 (rowL cs) f)) = true) : Seal P f cs d := by
  intro vs w hs hv
  have hlt : ∀ c ∈ cs, c < 2 ^ 96 := fun c hc => by
    obtain ⟨i, hi, rfl⟩ := List.mem_iff_getElem.1 hc
    have := (hv i (by omega) (fun _ => none)).lt
    rwa [List.getD_eq_getElem?_getD, List.getElem?_eq_getElem hi] at this
  have C := callN_ok (P := P) (pl := pl) (fun f => regOf_ok hm (pt f) (entsP_ok (pl := pl) hen hE)) hg hx 1000
  rw [hs] at H
  refine C (fun e _ _ => e = d) (pbF w) (fun _ => none) (poolG pl) (poolH pl) pl.length w f (frm 1 (rowL cs) f) vs doneK _ (pool_relF hl w) (pool_ok hl) (fun i hi => ?_) (fun i hi => ?_) (okT_ok _ H) (fun G' h' nx' w' c v g R hv hc => ?_)
  · rw [gF_frm, getS_rowL cs hlt]; exact hv i hi _
  · rw [gF_frm, getS_rowL cs hlt, List.getD_eq_getElem?_getD, List.getElem?_eq_none (by omega)]; rfl
  · have hc : c = d := hc
    subst hc
    exact ⟨v, rfl, hv.pl hd, R.kept, fun pb pn G h nx R2 => R2.back R⟩
/-- a sealed call of no arguments beside what stands for calls already -/
noncomputable def sealX (x : Ext) (f d : Nat) : Ext := ⟨fun g => Bool.rec (x.is g) true (Nat.beq g f), fun g na e0 h nx kv => Bool.rec (x.f g na e0 h nx kv) (chk (Nat.beq na 0) (kv d h nx)) (Nat.beq g f), x.col⟩
theorem sealX_ok {x : Ext} (hx : ExtS P pl x) {f d : Nat} (S : Seal P f [] d) : ExtS P pl (sealX x f d) := by
  intro φ pb pn G h nx w g e0 args kv R hf RR hp ha hz H hk
  have hf : (Bool.rec (x.is g) true (Nat.beq g f) : Bool) = true := hf
  have H2 : Tall φ (Bool.rec (x.f g args.size e0 h nx kv) (chk (Nat.beq args.size 0) (kv d h nx)) (Nat.beq g f)) := H
  cases hb : Nat.beq g f with
  | false =>
    rw [hb] at hf H2
    exact hx φ pb pn G h nx w g e0 args kv R hf RR hp ha hz H2 hk
  | true =>
    rw [hb] at H2
    obtain ⟨h0, H3⟩ := Tall.chk H2
    have h0 : args.size = 0 := Nat.eq_of_beq_eq_true h0
    obtain rfl : g = f := Nat.eq_of_beq_eq_true hb
    refine (S args w h0.symm fun i hi => absurd hi (by omega)).mono fun e w' hh => ?_
    obtain ⟨v, rfl, hv, hkp, hR⟩ := hh
    exact hk G h nx w' d v Gle.rfl (hR _ _ _ _ _ RR) (hv G) H3
theorem Seal.true {f : Nat} {cs : List Nat} {vs : Array Value} {w : World} (S : Seal P f cs 33) (hs : cs.length = vs.size) (hv : ∀ i, i < vs.size → ∀ G, VRel G (cs.getD i 0) (vs.getD i undef)) : Calls P f vs w fun e w' => e = .returned (.bool true) ∧ Kept w w' := by
  refine (S vs w hs hv).mono fun e w' hh => ?_
  obtain ⟨v, rfl, hv, hkp, _⟩ := hh
  obtain ⟨b, rfl, hb⟩ := (hv fun _ => none).inv_bool (by decide)
  cases b
  · cases hb
  · exact ⟨rfl, hkp⟩
theorem two_rel {c1 c2 : Nat} {v1 v2 : Value} (h1 : ∀ G, VRel G c1 v1) (h2 : ∀ G, VRel G c2 v2) : ∀ i, i < (#[v1, v2]).size → ∀ G, VRel G ([c1, c2].getD i 0) ((#[v1, v2]).getD i undef) := by
  intro i hi G
  have hi : i = 0 ∨ i = 1 := by simp at hi; omega
  rcases hi with rfl | rfl
  · exact h1 G
  · exact h2 G
theorem bit_lt {en n f : Nat} (hb : Nat.blt en (2 ^ n) = true) (hf : bitAt en f = true) : f < n := by
  rcases Nat.lt_or_ge f n with q | q
  · exact q
  · exfalso
    have hen : en < 2 ^ n := blt_ok hb
    have hz : Nat.shiftRight en f = 0 := by
      show en >>> f = 0
      rw [Nat.shiftRight_eq_div_pow]
      exact Nat.div_eq_of_lt (Nat.lt_of_lt_of_le hen (Nat.pow_le_pow_right (by omega) q))
    unfold bitAt at hf
    rw [hz] at hf
    cases hf
end Go.Ev
end
section
/- slices.AppendSeq over the keys of a map of at most one entry: what it comes to. -/
set_option linter.all false
namespace Go.Ev
open Go
noncomputable def txL (o : Obj) : Nat := Obj.rec 2000000 (fun _ _ _ _ _ => 2000000) (fun _ _ _ => 2000000) (fun _ _ => 2000000) (fun _ _ => 2000000) (fun n _ => n) (fun _ _ _ _ _ => 2000000) (fun _ _ _ _ => 2000000) (fun _ _ => 2000000) (fun _ _ _ _ _ => 2000000) o
/-- the key: of a map's row of entries -/
noncomputable def keyI (k : Bool) (kc : Nat) (h : Tr) : Bool := Bool.rec (Bool.rec (Nat.beq kc 16) (Nat.blt (txL (h.get (adN kc))) 1000000) (isT 3 kc)) (isN .i64 kc) k
noncomputable def apqM (k : Bool) (el mc : Nat) (h : Tr) (nx : Nat) (kv : KV) : T :=
  Bool.rec (chk (isT 9 mc) (rdM T.fail (h.get (adN mc)) fun clock n c => Nat.rec (kv 6 h nx) (fun n' _ => Nat.rec (chk (Nat.blt (getS c 2) clock) (chk (keyI k (getS c 0) h) (newR 0 el 1 (getS c 0) h nx 1 kv))) (fun _ _ => T.fail) n') n)) (kv 6 h nx) (Nat.beq mc 8)
noncomputable def apq (k : Bool) (el fk : Nat) : CL := fun _ na e0 h nx kv => chk (Nat.beq na 2) (chk (Nat.beq (gF e0 0) 6) (chk (isT 11 (gF e0 1)) (rdC T.fail (h.get (adN (gF e0 1))) fun f n1 _ n2 c2 => chk (Nat.beq f fk) (chk (Nat.beq n1 0) (chk (Nat.beq n2 1) (chk (isT 5 (getS c2 0)) (chk (Nat.beq (adO (getS c2 0)) 0)
  (wrR T.fail (h.get (adN (getS c2 0))) fun cl _ _ n r => chk cl (chk (Nat.blt 0 n) (apqM k el (getS r 0) h nx kv))))))))))
end Go.Ev
end
section
/- The plans of the regions whose order is drawn (printed by plans.py). -/
set_option linter.all false
namespace Go.Ev
def plans : List (List PM) := [
[],
[],
[],
[],
[⟨[], []⟩, ⟨[], []⟩, ⟨[], []⟩, ⟨[], []⟩, ⟨[], []⟩, ⟨[], []⟩, ⟨[], []⟩, ⟨[0, 1, 2, 3, 4, 5, 6], [0, 0, 2, 6, 14, 30, 63]⟩, ⟨[], []⟩, ⟨[0, 1, 2, 3, 4, 5, 6], [0, 0, 2, 6, 14, 30, 63]⟩, ⟨[], []⟩, ⟨[], []⟩, ⟨[], []⟩, ⟨[], []⟩, ⟨[], []⟩],
[⟨[], []⟩, ⟨[], []⟩, ⟨[0, 1, 2, 3, 4, 5], [0, 1, 0, 7, 15, 31]⟩, ⟨[], []⟩, ⟨[], []⟩, ⟨[], []⟩, ⟨[0, 1, 2, 3, 4, 5, 6, 7, 8, 9, 10], [0, 1, 3, 7, 0, 0, 0, 96, 224, 511, 1023]⟩, ⟨[], []⟩, ⟨[], []⟩],
[],
[⟨[], []⟩, ⟨[], []⟩, ⟨[], []⟩, ⟨[], []⟩, ⟨[], []⟩, ⟨[], []⟩, ⟨[], []⟩, ⟨[], []⟩, ⟨[], []⟩, ⟨[], []⟩, ⟨[], []⟩, ⟨[], []⟩, ⟨[], []⟩, ⟨[], []⟩, ⟨[0, 1, 2, 4, 5, 6, 3, 7, 8], [0, 0, 2, 7, 0, 0, 48, 15, 255]⟩, ⟨[], []⟩],
[],
[⟨[], []⟩, ⟨[0, 1, 2, 3, 4, 5, 6], [0, 0, 0, 4, 12, 30, 63]⟩],
[⟨[], []⟩, ⟨[], []⟩, ⟨[], []⟩, ⟨[], []⟩, ⟨[], []⟩, ⟨[], []⟩, ⟨[], []⟩, ⟨[], []⟩, ⟨[], []⟩, ⟨[], []⟩, ⟨[], []⟩, ⟨[], []⟩, ⟨[], []⟩, ⟨[], []⟩, ⟨[], []⟩, ⟨[], []⟩, ⟨[], []⟩, ⟨[0, 1, 2, 3, 4, 5, 6], [0, 1, 3, 7, 0, 16, 63]⟩, ⟨[], []⟩, ⟨[], []⟩],
[],
[],
[],
[⟨[], []⟩, ⟨[], []⟩, ⟨[], []⟩, ⟨[], []⟩, ⟨[], []⟩, ⟨[], []⟩, ⟨[], []⟩, ⟨[], []⟩, ⟨[], []⟩, ⟨[], []⟩, ⟨[], []⟩, ⟨[], []⟩, ⟨[], []⟩, ⟨[], []⟩, ⟨[0, 1, 2, 3, 4, 5, 6, 7, 8, 9, 10, 11, 12, 13, 15, 14, 16, 17, 18, 19], [0, 1, 0, 4, 15, 31, 63, 127, 63, 319, 1023, 2047, 4095, 8191, 16383, 8191, 65535, 131071, 262143, 524287]⟩, ⟨[], []⟩, ⟨[], []⟩, ⟨[], []⟩, ⟨[], []⟩, ⟨[], []⟩],
[⟨[], []⟩, ⟨[], []⟩, ⟨[], []⟩, ⟨[], []⟩, ⟨[], []⟩, ⟨[], []⟩, ⟨[], []⟩, ⟨[], []⟩, ⟨[], []⟩, ⟨[], []⟩, ⟨[], []⟩, ⟨[], []⟩, ⟨[], []⟩, ⟨[0, 1, 2, 3, 4, 5], [0, 1, 3, 0, 15, 31]⟩, ⟨[], []⟩, ⟨[], []⟩, ⟨[], []⟩],
[],
[],
[],
[⟨[], []⟩, ⟨[], []⟩, ⟨[], []⟩, ⟨[], []⟩, ⟨[], []⟩, ⟨[], []⟩, ⟨[], []⟩, ⟨[0, 1, 2, 3, 4, 5, 6, 7, 8, 9, 10, 11, 12], [0, 0, 2, 0, 8, 24, 56, 127, 255, 511, 511, 1023, 4095]⟩, ⟨[], []⟩, ⟨[0, 1, 2, 3, 4, 5, 6, 7, 8], [0, 0, 2, 0, 8, 24, 56, 127, 255]⟩, ⟨[], []⟩, ⟨[0, 1, 2, 3, 4, 5, 6, 7, 8, 9, 10, 11, 12, 13, 14], [0, 0, 2, 0, 8, 0, 32, 96, 224, 511, 1023, 2047, 2047, 4095, 16383]⟩, ⟨[], []⟩, ⟨[], []⟩, ⟨[], []⟩],
[],
[⟨[], []⟩, ⟨[], []⟩, ⟨[0, 1, 2, 3, 4, 5, 6, 7], [0, 1, 3, 7, 0, 16, 63, 127]⟩, ⟨[], []⟩, ⟨[], []⟩, ⟨[], []⟩, ⟨[], []⟩, ⟨[], []⟩, ⟨[], []⟩, ⟨[], []⟩, ⟨[], []⟩, ⟨[], []⟩, ⟨[], []⟩, ⟨[], []⟩],
[],
[],
[⟨[], []⟩, ⟨[], []⟩, ⟨[], []⟩, ⟨[], []⟩, ⟨[], []⟩, ⟨[], []⟩, ⟨[], []⟩, ⟨[], []⟩, ⟨[], []⟩, ⟨[], []⟩, ⟨[0, 1, 3, 4, 5, 7, 8, 2, 6, 9, 10, 11], [0, 1, 3, 0, 8, 24, 63, 0, 128, 391, 1023, 2047]⟩, ⟨[], []⟩, ⟨[], []⟩, ⟨[], []⟩],
[],
[],
[],
[],
[⟨[], []⟩, ⟨[], []⟩, ⟨[], []⟩, ⟨[], []⟩, ⟨[], []⟩, ⟨[], []⟩, ⟨[], []⟩, ⟨[0, 1, 2, 3, 4, 5, 6, 7, 8, 9, 10, 11, 12, 13, 14, 15, 16, 17, 18, 19, 20, 21, 22, 23, 24, 25, 26, 27, 28, 29, 30, 31, 32, 33, 34, 35, 36, 37, 38, 39, 40, 41, 42, 43, 44, 45, 46, 47, 48], [0, 1, 3, 7, 15, 7, 39, 127, 255, 7, 1023, 2047, 4095, 8191, 16383, 32767, 65535, 131071, 262143, 524287, 1048575, 2097151, 1048575, 5242879, 16777215, 33554431, 67108863, 134217727, 268435455, 268435455, 805306367, 1879048191, 268435455, 4563402751, 13153337343, 34359738367, 68719476735, 137438953471, 274877906943, 274877906943, 824633720831, 2199023255551, 4398046511103, 8796093022207, 17592186044415, 17592186044415, 52776558133247, 140737488355327, 281474976710655]⟩, ⟨[], []⟩, ⟨[0, 1, 2, 3, 4, 5, 6, 7], [0, 0, 2, 0, 0, 16, 55, 127]⟩, ⟨[], []⟩, ⟨[], []⟩, ⟨[], []⟩, ⟨[], []⟩, ⟨[0, 1, 2, 3, 4, 5, 6, 7, 8, 9, 10, 11, 12, 13, 14, 15, 16, 17, 18, 19, 20, 21, 22, 23, 24, 25, 26, 27, 28, 29, 30, 31, 32], [0, 1, 3, 7, 15, 7, 39, 127, 255, 511, 7, 1031, 4095, 8191, 16383, 32767, 65535, 131071, 262143, 524287, 1048575, 2097151, 1048575, 5242879, 16777215, 33554431, 67108863, 134217727, 268435455, 268435455, 805306367, 2147483647, 4294967295]⟩, ⟨[], []⟩, ⟨[], []⟩, ⟨[], []⟩, ⟨[], []⟩],
[⟨[], []⟩, ⟨[], []⟩, ⟨[], []⟩, ⟨[], []⟩, ⟨[], []⟩, ⟨[], []⟩, ⟨[0, 1, 2, 3, 4, 5, 6, 7, 8], [0, 0, 3, 7, 0, 0, 48, 112, 255]⟩, ⟨[], []⟩, ⟨[], []⟩, ⟨[], []⟩],
[⟨[], []⟩, ⟨[], []⟩, ⟨[], []⟩, ⟨[], []⟩, ⟨[], []⟩, ⟨[], []⟩, ⟨[0, 1, 2, 3, 4, 5, 6, 7, 8], [0, 0, 3, 7, 0, 0, 48, 112, 255]⟩, ⟨[], []⟩, ⟨[], []⟩, ⟨[], []⟩],
[],
[],
[],
[],
[],
[],
[],
[⟨[], []⟩, ⟨[], []⟩, ⟨[], []⟩, ⟨[], []⟩, ⟨[0, 1, 2, 3, 4, 5, 6, 7, 8, 9, 10, 11, 12, 13, 14, 15], [0, 0, 2, 6, 14, 30, 62, 126, 254, 510, 1022, 2046, 4094, 8190, 511, 32767]⟩, ⟨[0, 1, 2, 3, 4, 5, 7, 6, 8, 9, 10, 11], [0, 0, 2, 6, 14, 30, 62, 30, 254, 510, 127, 2047]⟩],
[],
[⟨[], []⟩, ⟨[], []⟩, ⟨[], []⟩, ⟨[], []⟩, ⟨[], []⟩, ⟨[], []⟩, ⟨[], []⟩, ⟨[], []⟩, ⟨[], []⟩, ⟨[], []⟩, ⟨[], []⟩, ⟨[], []⟩, ⟨[], []⟩, ⟨[], []⟩, ⟨[], []⟩, ⟨[0, 1, 2, 3, 4, 5, 7, 6, 8, 9, 10, 11, 12, 13, 14], [0, 0, 2, 6, 14, 0, 32, 0, 224, 480, 992, 2046, 4095, 8191, 16383]⟩, ⟨[], []⟩, ⟨[0, 1, 2, 3, 4, 5, 6, 7, 8, 9, 10, 11, 12], [0, 0, 2, 6, 14, 0, 32, 96, 224, 510, 1023, 2047, 4095]⟩, ⟨[], []⟩, ⟨[0, 1, 2, 3, 4, 5, 6, 7, 8, 9, 10, 11], [0, 0, 2, 6, 14, 0, 32, 96, 254, 511, 1023, 2047]⟩],
[],
[],
[],
[],
[⟨[], []⟩, ⟨[], []⟩, ⟨[], []⟩, ⟨[], []⟩, ⟨[], []⟩, ⟨[], []⟩, ⟨[], []⟩, ⟨[], []⟩, ⟨[], []⟩, ⟨[], []⟩, ⟨[0, 1, 2, 3, 4, 5, 6, 7, 8, 9, 10, 15, 11, 12, 13, 14, 16, 17], [0, 1, 3, 7, 0, 0, 0, 0, 128, 384, 896, 2047, 4095, 8191, 8191, 0, 49151, 131071]⟩, ⟨[], []⟩, ⟨[], []⟩, ⟨[], []⟩, ⟨[], []⟩, ⟨[], []⟩, ⟨[], []⟩],
[],
[⟨[], []⟩, ⟨[], []⟩, ⟨[], []⟩, ⟨[], []⟩, ⟨[0, 1, 2, 3, 4, 5, 6, 7, 8, 9], [0, 1, 3, 7, 0, 0, 32, 0, 128, 511]⟩, ⟨[], []⟩, ⟨[], []⟩, ⟨[], []⟩, ⟨[], []⟩, ⟨[], []⟩, ⟨[], []⟩, ⟨[], []⟩],
[⟨[], []⟩, ⟨[], []⟩, ⟨[], []⟩, ⟨[0, 1, 2, 3, 4, 5, 6, 7, 8, 9, 12, 10, 11], [0, 1, 3, 7, 0, 0, 32, 96, 224, 480, 1023, 2047, 0]⟩, ⟨[], []⟩, ⟨[], []⟩, ⟨[0, 1, 2, 3, 4, 5, 6, 7, 8, 9, 10, 11, 12], [0, 0, 2, 6, 14, 0, 32, 0, 128, 510, 1023, 2047, 4095]⟩, ⟨[], []⟩, ⟨[0, 1, 2, 3, 4, 7, 8, 9, 10, 11, 5, 6, 12, 13, 14, 15, 16, 17], [0, 1, 3, 7, 0, 16, 48, 0, 128, 384, 896, 1920, 4095, 8191, 16383, 16383, 32767, 131071]⟩, ⟨[], []⟩, ⟨[], []⟩, ⟨[], []⟩, ⟨[0, 1, 2, 3, 5, 6, 7, 8, 9, 4, 10, 11, 12, 13], [0, 1, 3, 7, 15, 0, 32, 96, 224, 480, 31, 1055, 4095, 8191]⟩, ⟨[], []⟩, ⟨[], []⟩, ⟨[], []⟩, ⟨[], []⟩, ⟨[], []⟩, ⟨[0, 1, 2, 3, 4, 5, 6, 7, 8, 9], [0, 1, 0, 0, 8, 28, 60, 127, 255, 511]⟩, ⟨[], []⟩, ⟨[], []⟩],
[],
[],
[⟨[], []⟩, ⟨[], []⟩, ⟨[], []⟩, ⟨[], []⟩, ⟨[0, 1, 2, 3, 5, 6, 7, 4, 8, 9, 10, 11, 12], [0, 0, 0, 4, 14, 0, 0, 64, 254, 510, 511, 1535, 4095]⟩],
[⟨[], []⟩, ⟨[], []⟩, ⟨[], []⟩, ⟨[], []⟩, ⟨[0, 1, 2, 3, 4, 5, 6, 11, 7, 8, 9, 10, 12, 13], [0, 0, 2, 0, 8, 24, 56, 127, 255, 511, 511, 0, 3071, 8191]⟩, ⟨[], []⟩, ⟨[], []⟩, ⟨[], []⟩, ⟨[0, 1, 2, 3, 4, 5, 6, 7, 8, 9, 10, 11, 12], [0, 1, 3, 7, 0, 16, 63, 127, 255, 511, 1023, 2047, 4095]⟩, ⟨[0, 1, 2, 3, 4, 5, 6, 7, 8, 9, 10, 11, 12, 13, 14], [0, 0, 2, 6, 14, 0, 32, 126, 254, 510, 0, 1024, 3072, 7168, 16383]⟩, ⟨[], []⟩],
[⟨[], []⟩, ⟨[0, 1, 2, 3, 4, 5, 6, 7, 8, 9, 10, 11, 12, 13, 14, 15, 16, 17, 18, 19, 20, 21, 22, 23, 24, 25, 26, 27, 28, 29, 30, 31, 32, 33, 34, 35, 36, 37, 38, 39, 40, 41, 42, 43, 44, 45, 46, 47, 48, 49, 50, 51, 52, 53, 54, 55, 56, 57, 58, 59, 60, 61, 62, 63, 64, 65, 66, 67, 68, 69, 70, 71], [0, 1, 3, 7, 15, 31, 31, 95, 255, 511, 1023, 2047, 4095, 8191, 16383, 32767, 65535, 131071, 262143, 524287, 1048575, 2097151, 4194303, 8388607, 16777215, 33554431, 67108863, 134217727, 268435455, 536870911, 1073741823, 2147483647, 4294967295, 8589934591, 17179869183, 34359738367, 68719476735, 137438953471, 274877906943, 549755813887, 1099511627775, 2199023255551, 4398046511103, 8796093022207, 17592186044415, 35184372088831, 70368744177663, 140737488355327, 281474976710655, 562949953421311, 1125899906842623, 2251799813685247, 4503599627370495, 9007199254740991, 18014398509481983, 36028797018963967, 72057594037927935, 144115188075855871, 288230376151711743, 576460752303423487, 1152921504606846975, 2305843009213693951, 4611686018427387903, 9223372036854775807, 18446744073709551615, 36893488147419103231, 73786976294838206463, 147573952589676412927, 295147905179352825855, 590295810358705651711, 1180591620717411303423, 2361183241434822606847]⟩, ⟨[], []⟩, ⟨[], []⟩, ⟨[], []⟩, ⟨[], []⟩, ⟨[], []⟩, ⟨[], []⟩, ⟨[], []⟩, ⟨[], []⟩, ⟨[], []⟩, ⟨[], []⟩, ⟨[], []⟩, ⟨[], []⟩, ⟨[], []⟩, ⟨[], []⟩, ⟨[], []⟩, ⟨[], []⟩],
[],
[⟨[], []⟩, ⟨[], []⟩, ⟨[], []⟩, ⟨[], []⟩, ⟨[1, 2, 3, 4, 5, 7, 8, 11, 12, 13, 14, 16, 17, 18, 21, 22, 25, 26, 0, 6, 9, 10, 15, 19, 20, 23, 24, 27, 28, 29, 30, 31, 32], [0, 0, 2, 6, 0, 16, 49, 0, 128, 497, 1009, 0, 2048, 6144, 14336, 32753, 0, 65536, 196608, 459761, 1048561, 0, 2097152, 7275505, 16777201, 0, 33554432, 116327409, 268435441, 536870897, 1073741823, 2147483647, 4294967295]⟩, ⟨[0, 1, 2, 4, 5, 3, 6, 7], [0, 0, 2, 7, 0, 16, 63, 127]⟩, ⟨[], []⟩, ⟨[0, 1, 2, 3, 5, 6, 7, 8, 4, 9, 10], [0, 0, 2, 6, 15, 0, 32, 96, 224, 511, 1023]⟩, ⟨[], []⟩, ⟨[], []⟩, ⟨[], []⟩, ⟨[], []⟩, ⟨[], []⟩, ⟨[], []⟩, ⟨[0, 1, 2, 5, 6, 7, 3, 4, 8, 9, 10], [0, 0, 2, 6, 14, 0, 32, 96, 254, 511, 1023]⟩, ⟨[], []⟩, ⟨[], []⟩, ⟨[], []⟩, ⟨[], []⟩, ⟨[], []⟩, ⟨[], []⟩, ⟨[], []⟩, ⟨[], []⟩, ⟨[], []⟩, ⟨[], []⟩, ⟨[], []⟩, ⟨[], []⟩, ⟨[], []⟩, ⟨[], []⟩, ⟨[], []⟩, ⟨[], []⟩, ⟨[], []⟩, ⟨[], []⟩, ⟨[], []⟩, ⟨[], []⟩, ⟨[], []⟩],
[],
[],
[],
[⟨[], []⟩, ⟨[], []⟩, ⟨[], []⟩, ⟨[], []⟩, ⟨[0, 1, 2, 3, 4, 5, 6, 7, 8, 9, 10, 11, 12, 13, 14, 15, 16], [0, 1, 3, 7, 15, 31, 63, 127, 127, 383, 1023, 2047, 127, 8191, 16383, 32767, 65535]⟩, ⟨[], []⟩, ⟨[], []⟩, ⟨[], []⟩],
[⟨[], []⟩, ⟨[], []⟩, ⟨[], []⟩, ⟨[], []⟩, ⟨[0, 1, 2, 3, 4, 5, 6, 7, 8, 9, 10, 11, 12, 13, 14, 15, 16, 17, 18, 19, 20], [0, 1, 0, 4, 15, 31, 63, 127, 255, 511, 1023, 1023, 3071, 8191, 16383, 32767, 1023, 66559, 262143, 524287, 1048575]⟩, ⟨[], []⟩, ⟨[], []⟩, ⟨[], []⟩],
[],
[],
[⟨[], []⟩, ⟨[0, 1, 2, 3, 4, 5, 6, 7, 8, 9, 10, 11, 12, 13, 14], [0, 1, 3, 7, 15, 31, 15, 15, 143, 15, 527, 1999, 4095, 8191, 16383]⟩],
[],
[],
[],
[⟨[], []⟩, ⟨[], []⟩, ⟨[], []⟩, ⟨[], []⟩, ⟨[], []⟩, ⟨[], []⟩, ⟨[0, 1, 2, 3, 4, 5, 6, 7, 8], [0, 0, 3, 7, 0, 0, 48, 112, 255]⟩, ⟨[], []⟩, ⟨[], []⟩, ⟨[], []⟩],
[],
[],
[],
[],
[],
[],
[],
[⟨[], []⟩, ⟨[], []⟩, ⟨[], []⟩, ⟨[], []⟩, ⟨[], []⟩, ⟨[], []⟩, ⟨[], []⟩, ⟨[], []⟩, ⟨[0, 1, 3, 4, 5, 7, 8, 2, 6, 9, 10, 11], [0, 1, 3, 0, 8, 24, 63, 0, 128, 391, 1023, 2047]⟩, ⟨[], []⟩],
[],
[],
[],
[],
[⟨[], []⟩, ⟨[], []⟩, ⟨[0, 1, 2, 3, 4, 5, 6, 7, 8, 9, 10], [0, 1, 3, 7, 15, 0, 32, 96, 224, 511, 1023]⟩],
[],
[],
[⟨[], []⟩, ⟨[0, 1, 2, 3, 4, 5, 6, 7, 8, 9, 10, 11, 12, 13, 14, 15, 16, 17, 18, 19], [0, 1, 3, 7, 15, 15, 47, 127, 255, 511, 1023, 2047, 4095, 8191, 16383, 32767, 65535, 131071, 262143, 524287]⟩],
[⟨[], []⟩, ⟨[], []⟩, ⟨[], []⟩, ⟨[], []⟩, ⟨[], []⟩, ⟨[], []⟩, ⟨[0, 1, 4, 5, 6, 2, 3, 7, 8], [0, 1, 3, 7, 0, 16, 48, 127, 255]⟩, ⟨[], []⟩, ⟨[], []⟩, ⟨[], []⟩, ⟨[], []⟩, ⟨[], []⟩, ⟨[], []⟩, ⟨[], []⟩, ⟨[], []⟩, ⟨[], []⟩, ⟨[], []⟩, ⟨[], []⟩, ⟨[], []⟩, ⟨[], []⟩, ⟨[], []⟩, ⟨[], []⟩, ⟨[], []⟩, ⟨[], []⟩],
[],
[],
[⟨[], []⟩, ⟨[], []⟩, ⟨[], []⟩, ⟨[0, 1, 2, 3, 4, 6, 5, 7, 8, 9, 10], [0, 1, 3, 7, 0, 0, 0, 96, 224, 480, 1023]⟩, ⟨[], []⟩],
[],
[],
[⟨[], []⟩, ⟨[], []⟩, ⟨[], []⟩, ⟨[], []⟩, ⟨[], []⟩, ⟨[0, 1, 2, 3, 4, 5, 6, 7, 8], [0, 1, 3, 7, 15, 0, 32, 96, 255]⟩, ⟨[], []⟩, ⟨[], []⟩, ⟨[], []⟩, ⟨[], []⟩, ⟨[], []⟩, ⟨[], []⟩, ⟨[], []⟩, ⟨[0, 1, 2, 3, 4, 5, 6, 7, 8, 9, 10], [0, 1, 3, 7, 0, 31, 63, 127, 127, 255, 1023]⟩, ⟨[], []⟩, ⟨[], []⟩, ⟨[], []⟩, ⟨[], []⟩, ⟨[0, 1, 2, 3, 4, 5, 6, 7, 8, 9, 10, 11], [0, 0, 2, 6, 14, 0, 0, 126, 255, 511, 1023, 2047]⟩, ⟨[], []⟩, ⟨[], []⟩, ⟨[], []⟩, ⟨[], []⟩, ⟨[], []⟩, ⟨[], []⟩, ⟨[], []⟩, ⟨[], []⟩, ⟨[], []⟩],
[⟨[], []⟩, ⟨[0, 1, 2, 3, 4, 5, 6, 7, 8, 9, 10], [0, 0, 2, 6, 14, 0, 32, 126, 255, 511, 1023]⟩, ⟨[], []⟩, ⟨[], []⟩, ⟨[], []⟩, ⟨[0, 1, 2, 3, 4, 5, 6, 7, 8, 9, 10, 11, 12, 13, 14, 15, 16, 17], [0, 0, 2, 6, 14, 0, 32, 96, 224, 0, 512, 1536, 3584, 0, 16382, 32767, 65535, 131071]⟩, ⟨[], []⟩, ⟨[], []⟩, ⟨[], []⟩, ⟨[], []⟩, ⟨[0, 1, 2, 3, 4, 5, 6, 7, 8, 9, 10, 11, 12, 13, 14, 15, 16, 17], [0, 0, 2, 6, 14, 0, 32, 96, 224, 0, 512, 1536, 3584, 0, 16382, 32767, 65535, 131071]⟩, ⟨[], []⟩, ⟨[], []⟩, ⟨[], []⟩, ⟨[], []⟩, ⟨[], []⟩, ⟨[0, 1, 2, 3, 4, 5, 6, 7, 8, 9, 10, 11, 12, 13, 14, 15, 16, 17, 20, 18, 19, 21, 22, 23, 24], [0, 0, 2, 6, 14, 0, 32, 96, 224, 0, 512, 1536, 3584, 0, 8192, 24576, 57344, 0, 131072, 516096, 0, 2097150, 4194303, 8388607, 16777215]⟩, ⟨[0, 1, 2, 3, 4, 5, 6, 7, 8, 9, 10, 11, 12, 13, 14, 15], [0, 0, 2, 6, 14, 0, 32, 96, 224, 0, 0, 2016, 4094, 8191, 16383, 32767]⟩, ⟨[0, 1, 2, 3, 4, 5, 6, 7, 8, 9, 10, 11, 12], [0, 0, 2, 6, 14, 0, 0, 0, 224, 510, 1023, 2047, 4095]⟩, ⟨[], []⟩],
[],
[],
[⟨[0, 1, 2, 3, 4, 5, 6, 7, 8, 9, 10, 11, 12, 13, 14], [0, 0, 2, 6, 14, 0, 0, 0, 224, 480, 992, 2046, 4095, 8191, 16383]⟩],
[⟨[], []⟩, ⟨[], []⟩, ⟨[], []⟩, ⟨[], []⟩, ⟨[], []⟩, ⟨[], []⟩, ⟨[], []⟩, ⟨[0, 1, 2, 3, 4, 5, 6, 7, 8, 9, 10, 11, 12, 13, 14, 15, 16, 17, 18, 19], [0, 1, 3, 7, 15, 31, 63, 63, 191, 447, 959, 2047, 4095, 63, 8255, 24639, 57407, 122943, 262143, 524287]⟩, ⟨[], []⟩, ⟨[], []⟩, ⟨[], []⟩, ⟨[], []⟩, ⟨[], []⟩, ⟨[], []⟩, ⟨[], []⟩, ⟨[0, 1, 2, 3, 4, 5, 6, 7, 8, 9, 10, 11, 12], [0, 1, 0, 0, 8, 24, 56, 0, 248, 508, 1023, 2047, 4095]⟩, ⟨[], []⟩, ⟨[], []⟩],
[⟨[], []⟩, ⟨[], []⟩, ⟨[], []⟩, ⟨[], []⟩, ⟨[], []⟩, ⟨[0, 1, 2, 3, 4, 6, 7, 5, 8, 9, 10, 11, 12, 13, 14, 15, 16, 17, 18], [0, 1, 3, 7, 15, 31, 15, 79, 255, 511, 1023, 2047, 4095, 4095, 4095, 20479, 65535, 131071, 262143]⟩, ⟨[], []⟩, ⟨[], []⟩, ⟨[], []⟩],
[],
[],
[],
[⟨[], []⟩, ⟨[0, 1, 2, 3, 4, 5, 6, 7, 8, 9, 10, 11, 12, 13], [0, 0, 2, 6, 14, 0, 32, 96, 224, 0, 512, 1536, 4095, 8191]⟩],
[⟨[], []⟩, ⟨[], []⟩, ⟨[], []⟩, ⟨[], []⟩, ⟨[], []⟩, ⟨[], []⟩, ⟨[], []⟩, ⟨[0, 1, 4, 5, 7, 8, 2, 3, 6, 9, 10, 11], [0, 1, 3, 7, 0, 16, 55, 0, 128, 503, 1015, 2047]⟩, ⟨[], []⟩, ⟨[], []⟩, ⟨[], []⟩, ⟨[], []⟩, ⟨[0, 1, 4, 2, 3, 5], [0, 1, 3, 7, 0, 31]⟩, ⟨[], []⟩, ⟨[], []⟩, ⟨[], []⟩, ⟨[], []⟩, ⟨[], []⟩, ⟨[], []⟩, ⟨[], []⟩, ⟨[], []⟩, ⟨[], []⟩, ⟨[0, 1, 2, 4, 5, 3, 6, 7, 8], [0, 0, 2, 6, 0, 16, 62, 126, 255]⟩, ⟨[], []⟩, ⟨[], []⟩, ⟨[], []⟩, ⟨[], []⟩, ⟨[], []⟩, ⟨[], []⟩, ⟨[], []⟩, ⟨[], []⟩],
[⟨[], []⟩, ⟨[], []⟩, ⟨[], []⟩, ⟨[0, 2, 3, 4, 5, 7, 8, 9, 10, 11, 12, 13, 1, 6, 14, 15], [0, 1, 0, 4, 12, 28, 63, 0, 128, 0, 512, 0, 2048, 8064, 16383, 32767]⟩, ⟨[], []⟩, ⟨[], []⟩, ⟨[], []⟩, ⟨[], []⟩, ⟨[], []⟩, ⟨[], []⟩, ⟨[], []⟩, ⟨[], []⟩, ⟨[], []⟩, ⟨[], []⟩, ⟨[], []⟩, ⟨[], []⟩, ⟨[0, 1, 2, 3, 5, 6, 7, 9, 10, 11, 12, 14, 15, 16, 17, 4, 8, 13, 18, 19], [0, 0, 2, 6, 15, 0, 32, 96, 255, 0, 512, 1536, 3584, 8191, 0, 16384, 49152, 114688, 262143, 524287]⟩, ⟨[], []⟩, ⟨[], []⟩, ⟨[], []⟩, ⟨[], []⟩],
[],
[⟨[], []⟩, ⟨[], []⟩, ⟨[], []⟩, ⟨[], []⟩, ⟨[], []⟩, ⟨[0, 1, 2, 3, 4, 5, 6, 7], [0, 0, 3, 0, 0, 24, 63, 127]⟩, ⟨[], []⟩, ⟨[], []⟩],
[],
[⟨[], []⟩, ⟨[], []⟩, ⟨[], []⟩, ⟨[], []⟩, ⟨[0, 1, 2, 3, 4, 5, 6, 7, 8, 9, 10, 11, 12, 13, 14, 15, 16], [0, 1, 0, 4, 12, 28, 63, 127, 255, 511, 255, 1279, 3327, 7423, 16383, 32767, 65535]⟩, ⟨[], []⟩, ⟨[0, 1, 2, 3, 4, 5, 6, 7], [0, 1, 0, 4, 12, 28, 63, 127]⟩, ⟨[], []⟩, ⟨[], []⟩, ⟨[], []⟩, ⟨[0, 1, 2, 3, 4, 5, 6, 7, 8, 9, 10, 11], [0, 1, 3, 7, 0, 16, 0, 64, 0, 511, 1023, 2047]⟩, ⟨[], []⟩, ⟨[], []⟩],
[],
[],
[⟨[], []⟩, ⟨[], []⟩, ⟨[], []⟩, ⟨[], []⟩, ⟨[], []⟩, ⟨[], []⟩, ⟨[0, 1, 2, 3, 4, 5, 6, 7, 8, 9, 10], [0, 1, 0, 7, 15, 0, 32, 0, 224, 480, 1023]⟩, ⟨[], []⟩, ⟨[], []⟩, ⟨[], []⟩, ⟨[], []⟩, ⟨[0, 1, 2, 3, 4, 5, 6, 7, 8, 9, 10], [0, 1, 0, 7, 15, 0, 32, 0, 224, 480, 1023]⟩, ⟨[], []⟩, ⟨[], []⟩],
[⟨[], []⟩, ⟨[], []⟩, ⟨[], []⟩, ⟨[], []⟩, ⟨[0, 1, 2, 3, 4, 5, 6, 7, 8, 9, 10, 11, 12, 13, 14, 15, 16, 17, 18, 19, 20, 21, 22, 23, 24, 25, 26, 27], [0, 1, 0, 4, 0, 16, 0, 64, 0, 256, 0, 1024, 0, 4096, 3, 16387, 49167, 114703, 245823, 507967, 1032447, 2081023, 4178943, 8373247, 16764927, 33542143, 67108863, 134217727]⟩, ⟨[], []⟩, ⟨[], []⟩, ⟨[], []⟩, ⟨[], []⟩, ⟨[], []⟩, ⟨[], []⟩, ⟨[], []⟩, ⟨[0, 1, 2, 3, 4, 5, 6, 7], [0, 1, 0, 4, 3, 19, 63, 127]⟩, ⟨[], []⟩, ⟨[0, 1, 2, 3, 4, 5, 6, 7, 8, 9, 10, 11, 12, 13, 14, 15], [0, 1, 0, 4, 0, 16, 0, 64, 3, 259, 783, 1807, 3903, 7999, 16383, 32767]⟩, ⟨[], []⟩, ⟨[0, 1, 2, 3, 4, 5, 6, 7], [0, 1, 0, 4, 3, 19, 63, 127]⟩, ⟨[], []⟩, ⟨[], []⟩, ⟨[0, 1, 2, 3, 4, 5, 6, 7], [0, 1, 0, 4, 3, 19, 63, 127]⟩, ⟨[], []⟩, ⟨[0, 1, 2, 3, 4, 5, 6, 7], [0, 1, 0, 4, 3, 19, 63, 127]⟩, ⟨[], []⟩, ⟨[], []⟩, ⟨[], []⟩, ⟨[], []⟩, ⟨[], []⟩, ⟨[], []⟩, ⟨[], []⟩],
[],
[],
[],
[],
[],
[⟨[], []⟩, ⟨[0, 1, 3, 4, 6, 7, 9, 10, 2, 12, 5, 8, 11, 13, 14, 15, 16, 17, 18, 19], [0, 1, 3, 0, 8, 31, 0, 64, 255, 0, 512, 2047, 1759, 8191, 16383, 32767, 65535, 131071, 262143, 524287]⟩, ⟨[], []⟩, ⟨[], []⟩, ⟨[], []⟩, ⟨[0, 1, 2, 3, 4, 5, 6, 7, 8, 9, 10, 11, 12], [0, 1, 0, 0, 8, 0, 56, 120, 248, 504, 1023, 2047, 4095]⟩, ⟨[], []⟩, ⟨[], []⟩],
[],
[⟨[], []⟩, ⟨[0, 1, 2, 3, 5, 6, 7, 8, 4, 9, 10, 11, 12], [0, 1, 0, 4, 15, 0, 32, 0, 128, 511, 1023, 2047, 4095]⟩],
[],
[],
[],
[],
[],
[],
[],
[],
[],
[],
[],
[],
[],
[],
[],
[],
[⟨[], []⟩, ⟨[], []⟩, ⟨[], []⟩, ⟨[], []⟩, ⟨[], []⟩, ⟨[], []⟩, ⟨[0, 1, 2, 3, 4, 5, 6, 7, 8, 9, 10, 11, 12, 13, 14, 15, 16, 17, 18, 19, 20, 21, 22, 23, 24, 25, 26, 27], [0, 1, 0, 4, 0, 16, 0, 64, 0, 256, 0, 1024, 0, 4096, 3, 16387, 49167, 114703, 245823, 507967, 1032447, 2081023, 4178943, 8373247, 16764927, 33542143, 67108863, 134217727]⟩, ⟨[], []⟩, ⟨[], []⟩, ⟨[], []⟩, ⟨[], []⟩, ⟨[], []⟩, ⟨[], []⟩, ⟨[], []⟩, ⟨[0, 1, 2, 3, 4, 5, 6, 7], [0, 1, 0, 4, 3, 19, 63, 127]⟩, ⟨[], []⟩, ⟨[0, 1, 2, 3, 4, 5, 6, 7, 8, 9, 10, 11, 12, 13, 14, 15, 16, 17, 18, 19, 20, 21, 22, 23, 24], [0, 1, 3, 7, 15, 31, 63, 0, 128, 0, 512, 0, 2048, 0, 8192, 127, 32895, 98815, 229887, 493567, 1017855, 2072575, 4169727, 8388607, 16777215]⟩, ⟨[], []⟩, ⟨[], []⟩, ⟨[], []⟩, ⟨[], []⟩, ⟨[], []⟩, ⟨[], []⟩],
[],
[⟨[], []⟩, ⟨[1, 2, 3, 4, 5, 7, 8, 11, 12, 13, 14, 16, 17, 18, 21, 22, 25, 26, 0, 6, 9, 10, 15, 19, 20, 23, 24, 27, 28, 29, 30, 31, 32], [0, 0, 2, 6, 0, 16, 49, 0, 128, 497, 1009, 0, 2048, 6144, 14336, 32753, 0, 65536, 196608, 459761, 1048561, 0, 2097152, 7275505, 16777201, 0, 33554432, 116327409, 268435441, 536870897, 1073741823, 2147483647, 4294967295]⟩, ⟨[0, 1, 2, 4, 5, 3, 6, 7], [0, 0, 2, 7, 0, 16, 63, 127]⟩, ⟨[], []⟩, ⟨[0, 1, 2, 3, 5, 6, 7, 8, 4, 9, 10], [0, 0, 2, 6, 15, 0, 32, 96, 224, 511, 1023]⟩, ⟨[], []⟩, ⟨[], []⟩, ⟨[], []⟩, ⟨[], []⟩, ⟨[], []⟩],
[],
[],
[],
[],
[],
[],
[⟨[], []⟩, ⟨[], []⟩, ⟨[0, 1, 2, 3, 4, 5], [0, 1, 3, 7, 0, 31]⟩, ⟨[], []⟩, ⟨[], []⟩, ⟨[], []⟩, ⟨[], []⟩, ⟨[], []⟩, ⟨[0, 1, 2, 4, 5, 6, 3, 7, 8], [0, 0, 2, 7, 0, 0, 48, 15, 255]⟩, ⟨[], []⟩, ⟨[], []⟩, ⟨[], []⟩, ⟨[], []⟩, ⟨[], []⟩],
[],
[⟨[], []⟩, ⟨[], []⟩, ⟨[], []⟩, ⟨[], []⟩, ⟨[], []⟩, ⟨[], []⟩, ⟨[], []⟩, ⟨[], []⟩, ⟨[], []⟩, ⟨[], []⟩, ⟨[], []⟩, ⟨[], []⟩, ⟨[], []⟩, ⟨[], []⟩, ⟨[], []⟩, ⟨[], []⟩, ⟨[], []⟩, ⟨[], []⟩, ⟨[], []⟩, ⟨[], []⟩, ⟨[], []⟩, ⟨[], []⟩, ⟨[0, 1, 2, 3, 4, 5, 6, 7, 8, 9, 10, 11, 12, 13, 14, 15, 16], [0, 0, 0, 0, 0, 16, 0, 64, 9, 265, 777, 1851, 3899, 7995, 16383, 32767, 65535]⟩, ⟨[], []⟩, ⟨[0, 1, 2, 3, 4, 5, 6, 8, 9, 10, 11, 12, 13, 7, 14, 15, 16, 17, 18], [0, 0, 2, 6, 0, 16, 48, 112, 0, 256, 768, 0, 2048, 6144, 16382, 32766, 65535, 131071, 262143]⟩, ⟨[], []⟩, ⟨[], []⟩],
[⟨[], []⟩, ⟨[], []⟩, ⟨[], []⟩, ⟨[0, 1, 2, 3, 4, 5, 6, 7, 8, 9, 10, 11, 12, 13, 14, 15], [0, 1, 3, 7, 0, 31, 63, 127, 255, 0, 1023, 2047, 4095, 4095, 8191, 32767]⟩, ⟨[], []⟩, ⟨[], []⟩, ⟨[0, 1, 2, 3, 5, 6, 7, 8, 4, 9, 10, 11, 12], [0, 1, 0, 4, 12, 0, 32, 0, 128, 511, 1023, 2047, 4095]⟩, ⟨[], []⟩],
[⟨[], []⟩, ⟨[], []⟩, ⟨[0, 1, 2, 3, 4, 5, 6], [0, 1, 3, 7, 0, 16, 63]⟩, ⟨[], []⟩, ⟨[], []⟩, ⟨[], []⟩, ⟨[], []⟩, ⟨[], []⟩, ⟨[], []⟩, ⟨[], []⟩, ⟨[0, 1, 2, 3, 4, 5, 6, 7], [0, 1, 3, 7, 0, 16, 63, 127]⟩, ⟨[0, 1, 2, 3, 4, 5, 6], [0, 1, 3, 7, 0, 16, 63]⟩, ⟨[], []⟩],
[],
[],
[⟨[], []⟩, ⟨[], []⟩, ⟨[], []⟩, ⟨[], []⟩, ⟨[], []⟩, ⟨[], []⟩, ⟨[], []⟩, ⟨[], []⟩, ⟨[], []⟩, ⟨[0, 1, 2, 3, 4, 5, 6, 7, 8], [0, 1, 3, 7, 0, 16, 63, 127, 255]⟩, ⟨[], []⟩, ⟨[], []⟩, ⟨[0, 1, 2, 3, 4, 5, 6, 8, 9, 7, 10], [0, 1, 3, 7, 0, 16, 0, 64, 0, 256, 1023]⟩, ⟨[], []⟩, ⟨[], []⟩, ⟨[], []⟩, ⟨[], []⟩, ⟨[], []⟩, ⟨[], []⟩, ⟨[], []⟩, ⟨[], []⟩, ⟨[], []⟩, ⟨[], []⟩, ⟨[0, 1, 2, 3, 4, 5, 6, 7, 8, 9, 10, 11, 12, 13, 14, 15, 16, 17, 18, 19], [0, 1, 0, 0, 0, 16, 0, 64, 0, 256, 0, 1024, 3840, 8176, 0, 32760, 65532, 131071, 262143, 524287]⟩, ⟨[], []⟩, ⟨[], []⟩, ⟨[], []⟩],
[],
[],
[],
[],
[],
[⟨[], []⟩, ⟨[], []⟩, ⟨[0, 1, 2, 3, 4, 5, 8, 6, 7], [0, 1, 3, 7, 0, 16, 63, 127, 0]⟩, ⟨[], []⟩, ⟨[], []⟩, ⟨[], []⟩, ⟨[], []⟩, ⟨[0, 1, 2, 3, 4, 5, 6, 7, 8, 9, 10, 11, 12, 13, 14, 15, 16], [0, 0, 0, 4, 12, 28, 0, 64, 252, 0, 0, 1024, 0, 8188, 16382, 32767, 65535]⟩, ⟨[], []⟩, ⟨[], []⟩],
[⟨[], []⟩, ⟨[0, 1, 2, 3, 4, 5, 7, 6, 8, 9], [0, 1, 3, 7, 0, 16, 63, 0, 255, 511]⟩, ⟨[], []⟩, ⟨[], []⟩, ⟨[], []⟩, ⟨[], []⟩, ⟨[0, 1, 2, 3, 4, 5, 6, 7, 8], [0, 1, 3, 7, 0, 15, 47, 127, 255]⟩, ⟨[], []⟩, ⟨[], []⟩, ⟨[], []⟩, ⟨[], []⟩, ⟨[], []⟩, ⟨[], []⟩, ⟨[], []⟩, ⟨[], []⟩, ⟨[], []⟩, ⟨[], []⟩, ⟨[], []⟩],
[],
[],
[],
[⟨[], []⟩, ⟨[0, 1, 2, 3, 4, 5, 6, 7, 8, 10, 11, 12, 13, 14, 15, 17, 18, 19, 20, 21, 22, 9, 16, 23, 24, 25, 26, 27, 28, 29, 30, 31, 32], [0, 0, 0, 0, 8, 24, 56, 0, 128, 504, 0, 1024, 3072, 7168, 0, 16384, 65528, 0, 131072, 393216, 917504, 0, 2097152, 8388600, 16777209, 33554425, 67108857, 134217723, 268435451, 536870907, 1073741823, 2147483647, 4294967295]⟩, ⟨[0, 1, 2, 3, 4, 5, 6, 7, 8, 9, 10], [0, 0, 2, 6, 14, 0, 32, 126, 255, 511, 1023]⟩, ⟨[], []⟩, ⟨[], []⟩],
[],
[],
[],
[],
[],
[],
[],
[],
[],
[],
[],
[],
[],
[],
[],
[],
[⟨[], []⟩, ⟨[0, 1, 4, 5, 9, 10, 2, 3, 6, 7, 8, 11, 12, 13], [0, 1, 3, 7, 0, 16, 55, 127, 255, 0, 512, 1655, 4095, 8191]⟩],
[],
[],
[],
[],
[⟨[], []⟩, ⟨[0, 1, 2, 3, 4, 5, 6, 7, 8, 9, 10, 11], [0, 1, 3, 7, 15, 0, 32, 96, 224, 480, 1023, 2047]⟩],
[⟨[], []⟩, ⟨[], []⟩, ⟨[], []⟩, ⟨[0, 1, 2, 3, 4, 5, 6, 7, 8, 9, 10, 11, 12, 14, 15, 16, 13, 17, 18, 19, 20, 21, 22, 23, 24, 25], [0, 1, 3, 7, 15, 31, 63, 127, 255, 511, 0, 1024, 0, 7199, 0, 16384, 49152, 130079, 261151, 523295, 261151, 2096159, 4193311, 4194303, 12582911, 33554431]⟩, ⟨[], []⟩, ⟨[], []⟩, ⟨[], []⟩, ⟨[], []⟩, ⟨[], []⟩, ⟨[], []⟩, ⟨[], []⟩, ⟨[], []⟩],
[],
[],
[],
[⟨[], []⟩, ⟨[0, 1, 2, 4, 5, 6, 7, 3, 8, 9], [0, 0, 2, 7, 0, 16, 48, 112, 255, 511]⟩, ⟨[], []⟩, ⟨[], []⟩, ⟨[], []⟩, ⟨[], []⟩, ⟨[], []⟩, ⟨[], []⟩, ⟨[], []⟩, ⟨[], []⟩, ⟨[], []⟩, ⟨[0, 1, 2, 3, 4, 5, 6, 7, 8, 9, 10, 12, 13, 11, 14, 15], [0, 0, 2, 6, 0, 16, 48, 0, 128, 384, 1022, 2047, 0, 4096, 16383, 32767]⟩, ⟨[], []⟩, ⟨[], []⟩, ⟨[], []⟩, ⟨[], []⟩, ⟨[], []⟩, ⟨[], []⟩, ⟨[], []⟩, ⟨[], []⟩, ⟨[], []⟩, ⟨[0, 1, 2, 4, 5, 6, 8, 9, 10, 11, 3, 7, 12, 13], [0, 0, 2, 7, 0, 16, 48, 127, 0, 256, 0, 1792, 4095, 8191]⟩, ⟨[], []⟩, ⟨[], []⟩],
[],
[⟨[], []⟩, ⟨[], []⟩, ⟨[], []⟩, ⟨[], []⟩, ⟨[], []⟩, ⟨[], []⟩, ⟨[0, 1, 2, 3, 4, 6, 7, 8, 9, 5, 10, 11, 12], [0, 0, 3, 7, 15, 31, 0, 0, 192, 448, 1023, 2047, 4095]⟩, ⟨[], []⟩, ⟨[], []⟩, ⟨[], []⟩, ⟨[], []⟩, ⟨[], []⟩, ⟨[], []⟩, ⟨[], []⟩],
[],
[],
[⟨[], []⟩, ⟨[], []⟩, ⟨[], []⟩, ⟨[0, 1, 2, 3, 4, 5, 6, 7, 8, 9, 10], [0, 1, 3, 7, 0, 0, 0, 64, 224, 511, 1023]⟩, ⟨[], []⟩],
[⟨[], []⟩, ⟨[], []⟩, ⟨[], []⟩, ⟨[], []⟩, ⟨[0, 1, 2, 3, 4, 5, 6, 7, 8, 9, 10, 11, 12], [0, 1, 3, 7, 0, 16, 0, 64, 0, 256, 0, 1024, 4095]⟩, ⟨[0, 1, 2, 3, 5, 6, 4, 7, 8, 9], [0, 1, 3, 7, 15, 0, 32, 127, 255, 511]⟩, ⟨[], []⟩, ⟨[], []⟩, ⟨[], []⟩, ⟨[], []⟩, ⟨[], []⟩, ⟨[0, 1, 2, 3, 4, 5], [0, 1, 3, 7, 0, 31]⟩, ⟨[], []⟩, ⟨[0, 1, 2, 3, 4, 5], [0, 1, 3, 7, 0, 31]⟩, ⟨[0, 1, 2, 3, 4, 5, 6, 7, 8, 9], [0, 1, 3, 7, 0, 16, 0, 127, 255, 511]⟩],
[],
[],
[],
[],
[],
[],
[],
[],
[],
[],
[],
[],
[],
[],
[],
[⟨[], []⟩, ⟨[], []⟩, ⟨[], []⟩, ⟨[], []⟩, ⟨[], []⟩, ⟨[], []⟩, ⟨[0, 1, 2, 3, 4, 5, 6, 7, 8], [0, 0, 3, 7, 0, 0, 48, 112, 255]⟩, ⟨[], []⟩, ⟨[], []⟩, ⟨[], []⟩],
[⟨[], []⟩, ⟨[], []⟩, ⟨[], []⟩, ⟨[], []⟩, ⟨[], []⟩, ⟨[], []⟩, ⟨[0, 1, 2, 3, 4, 5, 6, 7, 8], [0, 0, 3, 7, 0, 0, 48, 112, 255]⟩, ⟨[], []⟩, ⟨[], []⟩, ⟨[], []⟩],
[],
[],
[],
[],
[],
[],
[],
[⟨[], []⟩, ⟨[], []⟩, ⟨[], []⟩, ⟨[], []⟩, ⟨[], []⟩, ⟨[], []⟩, ⟨[], []⟩, ⟨[], []⟩, ⟨[0, 1, 2, 3, 4, 5, 6, 7], [0, 1, 3, 7, 0, 16, 0, 127]⟩, ⟨[0, 1, 2, 3, 4, 5, 6, 7, 8], [0, 1, 3, 7, 0, 16, 63, 127, 255]⟩, ⟨[], []⟩, ⟨[], []⟩, ⟨[], []⟩, ⟨[], []⟩],
[],
[],
[],
[],
[],
[⟨[], []⟩, ⟨[0, 1, 2, 3, 4, 5, 6, 7, 8, 9, 10, 11, 12], [0, 1, 3, 7, 0, 16, 48, 112, 0, 496, 1008, 2032, 4095]⟩, ⟨[], []⟩, ⟨[], []⟩],
[],
[],
[],
[⟨[], []⟩, ⟨[], []⟩, ⟨[], []⟩, ⟨[], []⟩, ⟨[], []⟩, ⟨[], []⟩, ⟨[], []⟩, ⟨[], []⟩, ⟨[0, 1, 2, 3, 4, 5, 6], [0, 1, 3, 7, 0, 0, 63]⟩, ⟨[], []⟩, ⟨[], []⟩, ⟨[], []⟩, ⟨[], []⟩, ⟨[], []⟩, ⟨[], []⟩, ⟨[], []⟩],
[],
[],
[⟨[], []⟩, ⟨[], []⟩, ⟨[], []⟩, ⟨[], []⟩, ⟨[], []⟩, ⟨[], []⟩, ⟨[], []⟩, ⟨[0, 1, 2, 3, 4, 5], [0, 1, 3, 7, 0, 31]⟩, ⟨[], []⟩],
[],
[],
[],
[],
[],
[⟨[], []⟩, ⟨[], []⟩, ⟨[], []⟩, ⟨[], []⟩, ⟨[0, 1, 2, 3], [0, 0, 1, 7]⟩],
[],
[],
[],
[],
[],
[],
[⟨[], []⟩, ⟨[], []⟩, ⟨[], []⟩, ⟨[], []⟩, ⟨[0, 1, 2, 3, 4, 6, 9, 5, 7, 8, 10], [0, 1, 3, 7, 0, 16, 0, 112, 240, 0, 1023]⟩, ⟨[], []⟩, ⟨[], []⟩, ⟨[], []⟩, ⟨[], []⟩, ⟨[], []⟩, ⟨[], []⟩, ⟨[], []⟩],
[],
[],
[],
[],
[],
[],
[],
[⟨[], []⟩, ⟨[], []⟩, ⟨[], []⟩, ⟨[], []⟩, ⟨[], []⟩, ⟨[], []⟩, ⟨[0, 1, 2, 3, 4, 5, 6, 7, 8, 9], [0, 0, 3, 7, 0, 0, 32, 112, 240, 511]⟩, ⟨[], []⟩, ⟨[], []⟩, ⟨[], []⟩, ⟨[], []⟩, ⟨[0, 1, 2, 3, 4, 5, 6, 7, 8, 9], [0, 0, 3, 7, 0, 0, 32, 112, 240, 511]⟩, ⟨[], []⟩, ⟨[], []⟩, ⟨[], []⟩, ⟨[], []⟩, ⟨[], []⟩],
[⟨[], []⟩, ⟨[], []⟩, ⟨[], []⟩, ⟨[], []⟩, ⟨[], []⟩, ⟨[], []⟩, ⟨[0, 2, 3, 4, 5, 7, 1, 6, 8], [0, 1, 0, 4, 12, 28, 63, 0, 255]⟩, ⟨[], []⟩, ⟨[], []⟩, ⟨[], []⟩, ⟨[0, 1, 2, 3, 4, 5, 6, 7, 8, 9, 10, 11, 12], [0, 0, 2, 6, 14, 0, 32, 96, 224, 510, 1022, 2047, 4095]⟩, ⟨[], []⟩, ⟨[], []⟩],
[],
[],
[],
[],
[],
[],
[],
[],
[],
[],
[⟨[], []⟩, ⟨[], []⟩, ⟨[], []⟩, ⟨[], []⟩, ⟨[], []⟩, ⟨[0, 1, 2, 3, 4, 5, 6, 7, 8, 9, 10, 11, 12, 13], [0, 0, 0, 6, 14, 30, 0, 0, 192, 448, 960, 2046, 4095, 8191]⟩, ⟨[], []⟩, ⟨[], []⟩],
[],
[],
[],
[],
[],
[⟨[], []⟩, ⟨[0, 5, 7, 9, 12, 1, 2, 3, 4, 6, 8, 10, 11, 13], [0, 1, 3, 7, 15, 0, 35, 0, 227, 0, 995, 2047, 0, 8191]⟩, ⟨[], []⟩, ⟨[], []⟩, ⟨[], []⟩, ⟨[], []⟩, ⟨[], []⟩, ⟨[], []⟩, ⟨[], []⟩, ⟨[], []⟩, ⟨[0, 2, 5, 1, 3, 4, 6, 7, 8, 9], [0, 1, 0, 7, 15, 0, 47, 127, 255, 511]⟩, ⟨[], []⟩],
[],
[],
[⟨[], []⟩, ⟨[], []⟩, ⟨[], []⟩, ⟨[], []⟩, ⟨[], []⟩, ⟨[], []⟩, ⟨[0, 1, 2, 3, 4, 5, 6, 7, 8, 9, 10, 11], [0, 1, 3, 7, 0, 0, 0, 0, 128, 480, 1023, 2047]⟩, ⟨[], []⟩],
[⟨[], []⟩, ⟨[], []⟩, ⟨[], []⟩, ⟨[], []⟩, ⟨[], []⟩, ⟨[0, 1, 2, 3, 4, 5, 6, 7, 8, 9, 10, 11, 12, 13, 14, 15], [0, 1, 0, 4, 15, 31, 63, 63, 255, 511, 63, 63, 3135, 7231, 16383, 32767]⟩, ⟨[], []⟩, ⟨[], []⟩, ⟨[], []⟩],
[⟨[], []⟩, ⟨[0, 1, 2, 3, 4, 5, 6, 7, 8, 9], [0, 0, 2, 6, 14, 0, 62, 127, 255, 511]⟩, ⟨[], []⟩, ⟨[0, 1, 2, 3, 4, 6, 5, 7, 8], [0, 1, 3, 7, 0, 16, 0, 112, 255]⟩, ⟨[], []⟩, ⟨[], []⟩, ⟨[], []⟩, ⟨[0, 1, 2, 3, 4, 5, 6, 7, 8, 9, 10, 11, 12, 13, 14, 15, 16, 17, 18, 19, 20, 21, 22, 23, 24, 25, 26, 27], [0, 1, 0, 4, 12, 28, 63, 127, 255, 511, 255, 1279, 3327, 7423, 16383, 32767, 65535, 131071, 262143, 131071, 655359, 1703935, 3801087, 131071, 8519679, 33161215, 67108863, 134217727]⟩, ⟨[0, 1, 2, 3, 4, 5, 6, 7, 8, 9], [0, 1, 3, 7, 0, 16, 0, 64, 0, 511]⟩, ⟨[], []⟩, ⟨[], []⟩, ⟨[0, 1, 2, 3, 4, 5, 6, 7, 8, 9, 10, 11], [0, 0, 2, 6, 14, 0, 32, 96, 224, 511, 1023, 2047]⟩],
[],
[],
[],
[],
[],
[],
[⟨[], []⟩, ⟨[], []⟩, ⟨[], []⟩, ⟨[], []⟩, ⟨[], []⟩, ⟨[0, 1, 2, 3, 4, 5, 6, 7], [0, 0, 0, 6, 14, 0, 63, 127]⟩, ⟨[], []⟩, ⟨[], []⟩, ⟨[0, 1, 2, 3, 4, 5, 6, 7, 8, 9, 10, 11, 12, 13, 14, 15], [0, 0, 0, 6, 14, 30, 30, 30, 222, 478, 30, 2046, 4094, 8190, 4095, 32767]⟩],
[],
[],
[],
[],
[],
[],
[],
[⟨[], []⟩, ⟨[], []⟩, ⟨[], []⟩, ⟨[], []⟩, ⟨[], []⟩, ⟨[0, 1, 2, 3, 4, 5, 6, 7], [0, 0, 3, 0, 0, 24, 63, 127]⟩, ⟨[], []⟩, ⟨[], []⟩],
[],
[],
[],
[⟨[], []⟩, ⟨[0, 1, 2, 3, 5, 6, 7, 8, 9, 10, 4, 11, 12], [0, 1, 0, 4, 12, 0, 32, 0, 128, 0, 0, 2047, 4095]⟩],
[],
[⟨[], []⟩, ⟨[], []⟩, ⟨[], []⟩, ⟨[0, 1, 2, 3, 4, 5, 6, 7, 8, 9, 10, 11, 12, 13, 14], [0, 0, 2, 6, 14, 0, 0, 0, 128, 480, 992, 2046, 4095, 8191, 16383]⟩, ⟨[], []⟩],
[⟨[], []⟩, ⟨[0, 1, 2, 3, 4, 5, 6, 7, 8, 9], [0, 1, 3, 7, 15, 0, 32, 96, 224, 511]⟩, ⟨[], []⟩, ⟨[], []⟩, ⟨[0, 1, 2, 3, 4, 5, 6, 7, 8, 9, 10, 11], [0, 0, 2, 6, 14, 0, 32, 96, 254, 511, 1023, 2047]⟩, ⟨[], []⟩],
[],
[],
[⟨[], []⟩, ⟨[], []⟩, ⟨[], []⟩, ⟨[], []⟩, ⟨[], []⟩, ⟨[], []⟩, ⟨[], []⟩, ⟨[], []⟩, ⟨[], []⟩, ⟨[], []⟩, ⟨[], []⟩, ⟨[], []⟩, ⟨[], []⟩, ⟨[], []⟩, ⟨[], []⟩, ⟨[], []⟩, ⟨[], []⟩, ⟨[0, 1, 2, 3, 4, 5, 6, 7, 8, 9, 10, 11, 12, 13, 14, 15, 16], [0, 1, 3, 7, 7, 7, 39, 119, 247, 7, 7, 1543, 3591, 8191, 16383, 32767, 65535]⟩, ⟨[], []⟩, ⟨[], []⟩, ⟨[], []⟩, ⟨[], []⟩, ⟨[], []⟩, ⟨[], []⟩, ⟨[], []⟩, ⟨[], []⟩, ⟨[], []⟩, ⟨[], []⟩, ⟨[], []⟩, ⟨[], []⟩, ⟨[], []⟩],
[],
[],
[],
[],
[],
[],
[⟨[], []⟩, ⟨[], []⟩, ⟨[], []⟩, ⟨[], []⟩, ⟨[], []⟩, ⟨[], []⟩, ⟨[0, 1, 2, 3, 4, 5, 6, 7, 8], [0, 1, 3, 7, 15, 0, 32, 0, 255]⟩, ⟨[0, 1, 2, 3, 4, 5, 6, 7, 8, 9, 10, 11], [0, 1, 3, 7, 0, 16, 48, 127, 0, 256, 0, 2047]⟩],
[],
[⟨[], []⟩, ⟨[], []⟩, ⟨[], []⟩, ⟨[], []⟩, ⟨[], []⟩, ⟨[], []⟩, ⟨[0, 1, 2, 3, 4, 5, 6, 7, 8, 9], [0, 0, 3, 7, 0, 0, 32, 112, 240, 511]⟩, ⟨[], []⟩, ⟨[], []⟩, ⟨[], []⟩, ⟨[], []⟩, ⟨[0, 1, 2, 3, 4, 5, 6, 7, 8, 9], [0, 0, 3, 7, 0, 0, 32, 112, 240, 511]⟩, ⟨[], []⟩, ⟨[], []⟩, ⟨[], []⟩, ⟨[], []⟩, ⟨[], []⟩],
[],
[⟨[], []⟩, ⟨[], []⟩, ⟨[], []⟩, ⟨[], []⟩, ⟨[], []⟩, ⟨[], []⟩, ⟨[], []⟩, ⟨[], []⟩, ⟨[], []⟩, ⟨[], []⟩, ⟨[], []⟩, ⟨[], []⟩, ⟨[], []⟩, ⟨[], []⟩, ⟨[], []⟩, ⟨[], []⟩, ⟨[], []⟩, ⟨[0, 1, 2, 3, 4, 5, 6, 7, 8, 9, 10, 11, 12, 13, 14], [0, 1, 3, 7, 7, 23, 63, 127, 7, 7, 775, 1799, 4095, 8191, 16383]⟩, ⟨[], []⟩, ⟨[], []⟩, ⟨[], []⟩, ⟨[], []⟩, ⟨[], []⟩, ⟨[], []⟩, ⟨[], []⟩, ⟨[], []⟩, ⟨[], []⟩, ⟨[], []⟩, ⟨[], []⟩, ⟨[], []⟩, ⟨[], []⟩],
[⟨[], []⟩, ⟨[], []⟩, ⟨[], []⟩, ⟨[], []⟩, ⟨[], []⟩, ⟨[], []⟩, ⟨[], []⟩, ⟨[], []⟩, ⟨[], []⟩, ⟨[], []⟩, ⟨[], []⟩, ⟨[], []⟩, ⟨[], []⟩, ⟨[], []⟩, ⟨[], []⟩, ⟨[], []⟩, ⟨[], []⟩, ⟨[0, 1, 2, 3, 4, 5, 6, 7, 8, 9, 10, 11, 12, 13, 14], [0, 1, 3, 7, 7, 23, 63, 127, 7, 7, 775, 1799, 4095, 8191, 16383]⟩, ⟨[], []⟩, ⟨[], []⟩, ⟨[], []⟩, ⟨[], []⟩, ⟨[], []⟩, ⟨[], []⟩, ⟨[], []⟩, ⟨[], []⟩, ⟨[], []⟩, ⟨[], []⟩, ⟨[], []⟩, ⟨[], []⟩, ⟨[], []⟩],
[],
[],
[],
[⟨[], []⟩, ⟨[], []⟩, ⟨[], []⟩, ⟨[0, 1, 2, 3, 4, 5, 6, 7, 8, 9, 10, 11, 12], [0, 1, 3, 7, 15, 0, 32, 96, 224, 480, 1023, 0, 4095]⟩, ⟨[], []⟩],
[],
[],
[],
[],
[⟨[0, 1, 2, 3, 4, 5, 6, 7], [0, 1, 0, 4, 12, 31, 63, 127]⟩],
[⟨[0, 1, 2, 3, 4, 5, 6, 7], [0, 1, 0, 4, 12, 31, 63, 127]⟩],
[],
[],
[],
[⟨[], []⟩, ⟨[0, 2, 1, 3, 4, 5], [0, 1, 0, 7, 15, 31]⟩, ⟨[], []⟩, ⟨[], []⟩, ⟨[], []⟩, ⟨[], []⟩, ⟨[], []⟩, ⟨[], []⟩, ⟨[0, 1, 2, 3, 5, 6, 8, 9, 12, 4, 7, 10, 11, 13], [0, 1, 0, 4, 15, 0, 32, 127, 0, 0, 1023, 2047, 0, 8191]⟩, ⟨[], []⟩, ⟨[], []⟩, ⟨[], []⟩, ⟨[], []⟩, ⟨[], []⟩, ⟨[], []⟩, ⟨[], []⟩, ⟨[], []⟩, ⟨[], []⟩, ⟨[], []⟩, ⟨[], []⟩, ⟨[], []⟩, ⟨[], []⟩, ⟨[], []⟩, ⟨[], []⟩, ⟨[], []⟩, ⟨[], []⟩],
[],
[],
[],
[],
[],
[],
[],
[],
[],
[],
[],
[],
[],
[],
[],
[⟨[], []⟩, ⟨[], []⟩, ⟨[], []⟩, ⟨[], []⟩, ⟨[], []⟩, ⟨[], []⟩, ⟨[], []⟩, ⟨[0, 1, 2, 3, 4, 5, 6, 7, 8, 9, 10, 11, 12, 13, 14, 15, 16, 17, 18, 19, 20], [0, 1, 3, 7, 15, 31, 63, 127, 31, 287, 799, 2047, 4095, 8191, 16383, 32767, 16383, 81919, 262143, 524287, 1048575]⟩],
[⟨[], []⟩, ⟨[0, 1, 2, 3, 4, 5, 6, 7, 8, 9], [0, 1, 3, 7, 15, 0, 32, 96, 224, 511]⟩, ⟨[], []⟩, ⟨[], []⟩, ⟨[0, 1, 2, 3, 4, 5, 6, 7, 8], [0, 1, 3, 7, 0, 16, 48, 112, 255]⟩, ⟨[], []⟩, ⟨[0, 1, 2, 3, 4, 5, 6, 7, 8], [0, 1, 3, 7, 0, 16, 48, 112, 255]⟩, ⟨[], []⟩],
[],
[⟨[], []⟩, ⟨[], []⟩, ⟨[], []⟩, ⟨[], []⟩, ⟨[0, 1, 2, 3, 4, 5, 6, 7, 8], [0, 0, 3, 7, 15, 0, 32, 127, 255]⟩, ⟨[], []⟩, ⟨[], []⟩],
[⟨[], []⟩, ⟨[], []⟩, ⟨[], []⟩, ⟨[], []⟩, ⟨[0, 1, 2, 3, 4, 5, 6, 7, 8, 9, 10, 11, 12, 13, 14, 15, 16], [0, 0, 3, 7, 15, 15, 15, 111, 239, 15, 15, 1039, 3599, 7695, 16383, 32767, 65535]⟩, ⟨[], []⟩, ⟨[0, 1, 2, 3, 4, 5, 6, 7, 8, 9, 10, 11, 12, 13, 14, 15, 16, 17], [0, 0, 0, 0, 8, 0, 0, 64, 224, 480, 0, 0, 3072, 7168, 16355, 32739, 65535, 131071]⟩],
[],
[],
[],
[],
[],
[],
[],
[],
[],
[],
[],
[],
[],
[⟨[], []⟩, ⟨[], []⟩, ⟨[], []⟩, ⟨[], []⟩, ⟨[0, 1, 2, 3, 4, 5, 6, 7, 8, 9, 10, 11, 12, 13, 14], [0, 0, 3, 7, 15, 15, 63, 127, 15, 15, 527, 1807, 3855, 8191, 16383]⟩, ⟨[], []⟩, ⟨[0, 1, 2, 3, 4, 5, 6, 7, 8, 9, 10, 11, 12, 13, 14, 15, 16, 17], [0, 0, 0, 0, 8, 0, 0, 64, 224, 480, 0, 0, 3072, 7168, 16355, 32739, 65535, 131071]⟩],
[],
[],
[],
[],
[],
[],
[],
[],
[⟨[], []⟩, ⟨[], []⟩, ⟨[], []⟩, ⟨[], []⟩, ⟨[0, 1, 2, 3, 4, 5, 6, 7, 8, 9, 10, 11, 12, 13, 14], [0, 0, 3, 7, 15, 15, 63, 127, 15, 15, 527, 1807, 3855, 8191, 16383]⟩, ⟨[], []⟩, ⟨[0, 1, 2, 3, 4, 5, 6, 7, 8, 9, 10, 11, 12, 13, 14, 15, 16, 17], [0, 0, 0, 0, 8, 0, 0, 64, 224, 480, 0, 0, 3072, 7168, 16355, 32739, 65535, 131071]⟩],
[],
[],
[],
[],
[],
[],
[],
[],
[],
[],
[⟨[0, 1, 2, 3, 4, 5, 6, 7, 9, 10, 11, 12, 13, 8, 14, 15], [0, 1, 3, 7, 15, 31, 0, 127, 255, 0, 512, 1536, 3584, 7680, 16383, 32767]⟩, ⟨[], []⟩, ⟨[], []⟩],
[],
[],
[],
[],
[⟨[0, 1, 2, 3, 4, 5, 6, 7], [0, 1, 0, 4, 12, 31, 63, 127]⟩],
[],
[⟨[0, 1, 2, 4, 3, 5, 6, 7, 8, 9, 10], [0, 1, 0, 4, 0, 28, 60, 124, 255, 511, 1023]⟩],
[],
[],
[],
[],
[⟨[], []⟩, ⟨[], []⟩, ⟨[], []⟩, ⟨[], []⟩, ⟨[], []⟩, ⟨[0, 1, 3, 2, 4], [0, 0, 2, 0, 15]⟩, ⟨[], []⟩, ⟨[], []⟩, ⟨[], []⟩, ⟨[], []⟩, ⟨[], []⟩, ⟨[], []⟩, ⟨[0, 1, 3, 2, 4], [0, 0, 2, 0, 15]⟩, ⟨[], []⟩, ⟨[0, 1, 3, 2, 4], [0, 0, 2, 0, 15]⟩, ⟨[], []⟩],
[],
[],
[],
[],
[],
[],
[],
[],
[⟨[], []⟩, ⟨[], []⟩, ⟨[], []⟩, ⟨[], []⟩, ⟨[], []⟩, ⟨[], []⟩, ⟨[], []⟩, ⟨[], []⟩, ⟨[], []⟩, ⟨[], []⟩, ⟨[], []⟩, ⟨[0, 1, 2, 3, 4, 5, 6, 7, 8], [0, 0, 0, 6, 15, 0, 0, 96, 255]⟩, ⟨[], []⟩, ⟨[], []⟩, ⟨[], []⟩, ⟨[0, 1, 2, 3, 4, 5, 6, 7, 8], [0, 0, 0, 6, 15, 0, 0, 96, 255]⟩, ⟨[], []⟩, ⟨[], []⟩, ⟨[], []⟩, ⟨[], []⟩, ⟨[], []⟩],
[],
[],
[],
[],
[],
[],
[],
[],
[],
[],
[],
[],
[],
[],
[],
[],
[],
[],
[],
[],
[],
[],
[],
[],
[],
[],
[],
[],
[],
[],
[],
[],
[],
[],
[],
[],
[],
[],
[],
[],
[⟨[], []⟩, ⟨[], []⟩, ⟨[], []⟩, ⟨[], []⟩, ⟨[], []⟩, ⟨[], []⟩, ⟨[], []⟩, ⟨[], []⟩, ⟨[], []⟩, ⟨[], []⟩, ⟨[], []⟩, ⟨[], []⟩, ⟨[], []⟩, ⟨[], []⟩, ⟨[], []⟩, ⟨[], []⟩, ⟨[], []⟩, ⟨[0, 1, 2, 3, 4, 5, 6, 7, 8, 9, 10, 11, 12, 13, 14, 15, 16], [0, 1, 3, 7, 7, 7, 39, 119, 247, 7, 7, 1543, 3591, 8191, 16383, 32767, 65535]⟩, ⟨[], []⟩, ⟨[], []⟩, ⟨[], []⟩, ⟨[], []⟩, ⟨[], []⟩, ⟨[], []⟩, ⟨[], []⟩, ⟨[], []⟩, ⟨[], []⟩, ⟨[], []⟩, ⟨[], []⟩, ⟨[], []⟩, ⟨[], []⟩],
[],
[],
[],
[],
[],
[],
[⟨[], []⟩, ⟨[], []⟩, ⟨[], []⟩, ⟨[], []⟩, ⟨[0, 1, 2, 3, 4, 5, 6, 7, 8, 9, 10, 11, 12, 13, 14, 15, 16], [0, 0, 3, 7, 15, 15, 15, 111, 239, 15, 15, 1039, 3599, 7695, 16383, 32767, 65535]⟩, ⟨[], []⟩, ⟨[0, 1, 2, 3, 4, 5, 6, 7, 8, 9, 10, 11, 12, 13, 14, 15, 16, 17], [0, 0, 0, 0, 8, 0, 0, 64, 224, 480, 0, 0, 3072, 7168, 16355, 32739, 65535, 131071]⟩],
[],
[],
[],
[],
[],
[],
[],
[],
[],
[],
[],
[],
[],
[],
[],
[],
[],
[],
[],
[],
[],
[],
[],
[],
[],
[],
[],
[],
[],
[],
[],
[],
[],
[],
[],
[],
[],
[],
[],
[],
[],
[],
[],
[],
[]]
noncomputable def ptN (f : Nat) : PT := fun id => Option.rec ⟨[], []⟩ (fun p => p) (nth (Option.rec [] (fun l => l) (nth plans f)) id)
def gdN : Nat := 11720274450928205213851849944439989380917732455939220800649386970623800044362236189221589318671513735546942879543275151086996201226108920
end Go.Ev
end
section
/- The evaluator at the program: the pool, the functions that are entered, those without bodies. -/
set_option linter.all false
namespace Go.Ev
open Go Go.Proofs
def pool : List Value := [.string ⟨#[32]⟩, .string ⟨#[35]⟩, .string ⟨#[36]⟩, .string ⟨#[43]⟩, .string ⟨#[45]⟩, .string ⟨#[47]⟩, .string ⟨#[97]⟩, .string ⟨#[98]⟩, .string ⟨#[99]⟩, .string ⟨#[103]⟩, .string ⟨#[107]⟩, .string ⟨#[108]⟩, .string ⟨#[114]⟩, .string ⟨#[116]⟩, .string ⟨#[120]⟩, .string ⟨#[72, 66, 49]⟩, .string ⟨#[77, 81, 84, 84]⟩, .string ⟨#[48, 49, 50, 51, 52, 53, 54, 55, 56, 57, 97, 98, 99, 100, 101, 102]⟩, .string ⟨#[108, 101, 110, 32, 111, 117, 116, 32, 111, 102, 32, 114, 97, 110, 103, 101]⟩, .string ⟨#[99, 97, 110, 110, 111, 116, 32, 98, 101, 32, 110, 101, 103, 97, 116, 105, 118, 101]⟩, .string ⟨#[48, 49, 50, 51, 52, 53, 54, 55, 56, 57, 97, 98, 99, 100, 101, 102, 103, 104, 105, 106, 107, 108, 109, 110, 111, 112, 113, 114, 115, 116, 117, 118, 119, 120, 121, 122]⟩, .string ⟨#[115, 116, 114, 105, 110, 103, 115, 46, 66, 117, 105, 108, 100, 101, 114, 46, 71, 114, 111, 119, 58, 32, 110, 101, 103, 97, 116, 105, 118, 101, 32, 99, 111, 117, 110, 116]⟩, .string ⟨#[115, 116, 114, 105, 110, 103, 115, 58, 32, 74, 111, 105, 110, 32, 111, 117, 116, 112, 117, 116, 32, 108, 101, 110, 103, 116, 104, 32, 111, 118, 101, 114, 102, 108, 111, 119]⟩, .string ⟨#[115, 116, 114, 99, 111, 110, 118, 58, 32, 105, 108, 108, 101, 103, 97, 108, 32, 65, 112, 112, 101, 110, 100, 73, 110, 116, 47, 70, 111, 114, 109, 97, 116, 73, 110, 116, 32, 98, 97, 115, 101]⟩, .string ⟨#[48, 48, 48, 49, 48, 50, 48, 51, 48, 52, 48, 53, 48, 54, 48, 55, 48, 56, 48, 57, 49, 48, 49, 49, 49, 50, 49, 51, 49, 52, 49, 53, 49, 54, 49, 55, 49, 56, 49, 57, 50, 48, 50, 49, 50, 50, 50, 51, 50, 52, 50, 53, 50, 54, 50, 55, 50, 56, 50, 57, 51, 48, 51, 49, 51, 50, 51, 51, 51, 52, 51, 53, 51, 54, 51, 55, 51, 56, 51, 57, 52, 48, 52, 49, 52, 50, 52, 51, 52, 52, 52, 53, 52, 54, 52, 55, 52, 56, 52, 57, 53, 48, 53, 49, 53, 50, 53, 51, 53, 52, 53, 53, 53, 54, 53, 55, 53, 56, 53, 57, 54, 48, 54, 49, 54, 50, 54, 51, 54, 52, 54, 53, 54, 54, 54, 55, 54, 56, 54, 57, 55, 48, 55, 49, 55, 50, 55, 51, 55, 52, 55, 53, 55, 54, 55, 55, 55, 56, 55, 57, 56, 48, 56, 49, 56, 50, 56, 51, 56, 52, 56, 53, 56, 54, 56, 55, 56, 56, 56, 57, 57, 48, 57, 49, 57, 50, 57, 51, 57, 52, 57, 53, 57, 54, 57, 55, 57, 56, 57, 57]⟩, .string ⟨#[0, 1, 2, 2, 3, 3, 3, 3, 4, 4, 4, 4, 4, 4, 4, 4, 5, 5, 5, 5, 5, 5, 5, 5, 5, 5, 5, 5, 5, 5, 5, 5, 6, 6, 6, 6, 6, 6, 6, 6, 6, 6, 6, 6, 6, 6, 6, 6, 6, 6, 6, 6, 6, 6, 6, 6, 6, 6, 6, 6, 6, 6, 6, 6, 7, 7, 7, 7, 7, 7, 7, 7, 7, 7, 7, 7, 7, 7, 7, 7, 7, 7, 7, 7, 7, 7, 7, 7, 7, 7, 7, 7, 7, 7, 7, 7, 7, 7, 7, 7, 7, 7, 7, 7, 7, 7, 7, 7, 7, 7, 7, 7, 7, 7, 7, 7, 7, 7, 7, 7, 7, 7, 7, 7, 7, 7, 7, 7, 8, 8, 8, 8, 8, 8, 8, 8, 8, 8, 8, 8, 8, 8, 8, 8, 8, 8, 8, 8, 8, 8, 8, 8, 8, 8, 8, 8, 8, 8, 8, 8, 8, 8, 8, 8, 8, 8, 8, 8, 8, 8, 8, 8, 8, 8, 8, 8, 8, 8, 8, 8, 8, 8, 8, 8, 8, 8, 8, 8, 8, 8, 8, 8, 8, 8, 8, 8, 8, 8, 8, 8, 8, 8, 8, 8, 8, 8, 8, 8, 8, 8, 8, 8, 8, 8, 8, 8, 8, 8, 8, 8, 8, 8, 8, 8, 8, 8, 8, 8, 8, 8, 8, 8, 8, 8, 8, 8, 8, 8, 8, 8, 8, 8, 8, 8, 8, 8, 8, 8, 8, 8, 8, 8, 8, 8, 8, 8]⟩, .func (.func 70) #[] #[], .func (.func 73) #[] #[], .func (.func 125) #[] #[], .func (.func 168) #[] #[], .func (.func 217) #[] #[], .func (.func 121) #[] #[], .func (.func 119) #[] #[], .func (.func 306) #[] #[], .func (.func 340) #[] #[], .func (.func 396) #[] #[], .func (.func 424) #[] #[], .agg #[.int .i64 0, .int .i64 0, .int .i64 0, .string ⟨#[]⟩]]
theorem pool_lt : pool.length < 16000000 := by decide
def enN : Nat := 409173826177553961873564508587301190138446227044652009788861547044702273467561640551925566507919599537887268126146246593902470092144225395058570952700
theorem ent_all : entA Tryz.prog enN 498 = true := by kernel_rfl
theorem ent_lt : Nat.blt enN (2 ^ 498) = true := by kernel_rfl
theorem ent_s : EnS Tryz.prog enN := entA_ok ent_all ent_lt
noncomputable def exN (f : Nat) : Nat := Bool.rec (Bool.rec (Bool.rec 0 3 (Nat.beq f 418)) 2 (Nat.beq f 400)) 1 (Nat.beq f 382)
def colN (f : Nat) : Bool := Nat.beq f 220
noncomputable def extN : Ext := ⟨fun f => Bool.rec (Nat.beq f 403) true (Nat.beq f 313), fun f na e0 h nx kv => Bool.rec (apq false 9 343 f na e0 h nx kv) (apq true 3 253 f na e0 h nx kv) (Nat.beq f 313), colN⟩
theorem mixed : Tryz.prog.follows .mixedOrders = true := by kernel_rfl
theorem exN_1 {f : Nat} (h : exN f = 1) : f = 382 := by
  unfold exN at h
  cases h1 : Nat.beq f 382
  · rw [h1] at h
    cases h2 : Nat.beq f 400
    · rw [h2] at h
      cases h3 : Nat.beq f 418
      · rw [h3] at h; cases h
      · rw [h3] at h; cases h
    · rw [h2] at h; cases h
  · exact Nat.eq_of_beq_eq_true h1
theorem exN_2 {f : Nat} (h : exN f = 2) : f = 400 := by
  unfold exN at h
  cases h1 : Nat.beq f 382
  · rw [h1] at h
    cases h2 : Nat.beq f 400
    · rw [h2] at h
      cases h3 : Nat.beq f 418
      · rw [h3] at h; cases h
      · rw [h3] at h; cases h
    · exact Nat.eq_of_beq_eq_true h2
  · rw [h1] at h; cases h
theorem exN_3 {f : Nat} (h : exN f = 3) : f = 418 := by
  unfold exN at h
  cases h1 : Nat.beq f 382
  · rw [h1] at h
    cases h2 : Nat.beq f 400
    · rw [h2] at h
      cases h3 : Nat.beq f 418
      · rw [h3] at h; cases h
      · exact Nat.eq_of_beq_eq_true h3
    · rw [h2] at h; cases h
  · rw [h1] at h; cases h
theorem ext_s : ExtT Tryz.prog 5 exN where
  one f hf v w := by
    obtain rfl := exN_1 hf
    rw [run_callFunc_extern (P := Tryz.prog) (f := 382) (fn := Tryz.f382) (e := Extern.AbiNoEscape.same) Tryz.func382 (by kernel_rfl) (by kernel_rfl) (by kernel_rfl) (by kernel_rfl), Lib.run_noEscape]
    rfl
  two f hf s c w := by
    obtain rfl := exN_2 hf
    rw [run_callFunc_extern (P := Tryz.prog) (f := 400) (fn := Tryz.f400) (e := Extern.BytealgCount.count) Tryz.func400 (by kernel_rfl) (by kernel_rfl) (by kernel_rfl) (by kernel_rfl), Lib.run_countString]
    rfl
  three f hf n w hn := by
    obtain rfl := exN_3 hf
    obtain ⟨cs, h1, h2, _⟩ := Lib.run_makeNoZero (P := Tryz.prog) w #[3] 27 5 (by kernel_rfl) n hn
    refine ⟨cs, ?_, h2⟩
    rw [run_callFunc_extern (P := Tryz.prog) (f := 418) (fn := Tryz.f418) (e := Extern.BytealgMakeNoZero.makeNoZero #[3] #[27]) Tryz.func418 (by kernel_rfl) (by kernel_rfl) (by kernel_rfl) (by kernel_rfl), h1]
    rfl
noncomputable def run (f n e : Nat) : T := runT gdN ptN ent_s ext_s pool extN f n e
noncomputable def goodN (f : Nat) : GoodE := goodR (entsP ent_s ext_s pool) (ptN f)
end Go.Ev
end
