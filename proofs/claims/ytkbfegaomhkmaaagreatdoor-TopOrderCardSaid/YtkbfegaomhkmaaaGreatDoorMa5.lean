/- slices.AppendSeq over the keys of a map of at most one entry: a call of it comes to what is told, by the kit's contracts. -/
import Derived.Shelf.SlIterI.Nil
import Derived.Test.YtkbfegaomhkmaaaGreatDoorMa2
import Derived.Test.YtkbfegaomhkmaaaGreatDoorMa3
set_option linter.all false
namespace Go.Ev
open Go Go.RowKit Go.Proofs Go.Maps Go.WideElems
variable {P : Program} {N : Nat} {pl : List Value} {φ : Nat → Tr → Nat → Prop} {pb : Kb} {pn : Nat → Option Obj} {G : Gh} {h : Tr} {nx nm : Nat} {w w' : World}
/-- blocks of before stay: a world is told as before -/
theorem Rel.keep (R : Rel P pb pn G h nx w) (hs : w.heap.size ≤ w'.heap.size) (same : ∀ b, b < w.heap.size → w'.heap[b]? = w.heap[b]?) (lk : Lk w w') : Rel P pb pn G h nx w' := by
  refine ⟨fun k hg => (R.obj k hg).mono Gle.rfl fun b s t z e _ => same b (R.bd _ _ _ _ _ e), R.inj, fun b o e => ⟨?_, (R.pb b o e).2⟩, R.pn, R.fresh, fun k b s t z e => Nat.lt_of_lt_of_le (R.bd k b s t z e) hs, R.nxb, R.non, lk.to R.oo⟩
  have h1 := (R.pb b o e).1
  have hb : b < w.heap.size := by
    rcases Nat.lt_or_ge b w.heap.size with h | h
    · exact h
    · rw [Array.getElem?_eq_none h] at h1; cases h1
  rw [same b hb]; exact h1
/-- .. and a block of the call's own gets a name -/
theorem Rel.nameAt (R : Rel P pb pn G h nx w) (hs : w.heap.size ≤ w'.heap.size) (same : ∀ b, b < w.heap.size → w'.heap[b]? = w.heap[b]?) {g s tot sz : Nat} {o : Obj} (hg : w.heap.size ≤ g) (hg' : g < w'.heap.size) (hb : nx + 1 < 16777216) (hO : ORel P (Gup G nx (.blk g s tot sz)) nx w' o) (lk : Lk w w') :
    Rel P pb pn (Gup G nx (.blk g s tot sz)) (h.set nx o) (nx + 1) w' := by
  have hlt : nx < 1000000000 := Nat.lt_trans R.nxb (by decide)
  have hn : G nx = none := R.fresh nx (Nat.le_refl _)
  have cs : ∀ k b s' t' z', Gup G nx (.blk g s tot sz) k = some (.blk b s' t' z') → (k = nx ∧ b = g) ∨ (k ≠ nx ∧ G k = some (.blk b s' t' z') ∧ b < w.heap.size) := fun k b s' t' z' e => by
    by_cases hk : k = nx
    · subst hk
      rw [Gup.at] at e
      injection e with e
      injection e with e1
      exact .inl ⟨rfl, e1.symm⟩
    · rw [Gup.ne G _ hk] at e
      exact .inr ⟨hk, e, R.bd _ _ _ _ _ e⟩
  have lt : ∀ b o', pb.blk b = some o' → b < w.heap.size := fun b o' e => by
    have h1 := (R.pb b o' e).1
    rcases Nat.lt_or_ge b w.heap.size with h | h
    · exact h
    · rw [Array.getElem?_eq_none h] at h1; cases h1
  refine ⟨fun k hg => ?_, fun n1 n2 b s1 t1 z1 s2 t2 z2 g1 g2 m1 m2 => ?_, fun b o' e => ⟨?_, fun k s t z g => ?_⟩, fun k o' e => ?_, fun k hk => ?_, fun k b s t z e => ?_, hb, fun k hk => by rw [Tr.get_set _ _ _ hlt, if_neg (by omega)]; exact R.non k (by omega), lk.to R.oo⟩
  · rw [Tr.get_set _ _ _ hlt]
    by_cases hk : k = nx
    · subst hk; rw [if_pos rfl]; exact hO
    · rw [if_neg hk]
      rw [Gup.ne G _ hk] at hg
      exact (R.obj k hg).mono (Gup.le hn) fun b s t z e _ => same b (R.bd _ _ _ _ _ e)
  · rw [Tr.get_set _ _ _ hlt] at m1 m2
    rcases cs _ _ _ _ _ g1 with ⟨a1, e1⟩ | ⟨a1, g1, e1⟩ <;> rcases cs _ _ _ _ _ g2 with ⟨a2, e2⟩ | ⟨a2, g2, e2⟩
    · rw [a1, a2]
    · omega
    · omega
    · rw [if_neg a1] at m1
      rw [if_neg a2] at m2
      exact R.inj n1 n2 _ _ _ _ _ _ _ g1 g2 m1 m2
  · rw [same b (lt b o' e)]; exact (R.pb b o' e).1
  · have hb := lt b o' e
    rcases cs _ _ _ _ _ g with ⟨a1, e1⟩ | ⟨a1, g1, e1⟩
    · omega
    · rw [Tr.get_set _ _ _ hlt, if_neg a1]
      exact (R.pb b o' e).2 k _ _ _ g1
  · obtain ⟨h1, h2, h3⟩ := R.pn k o' e
    have hk : k ≠ nx := by omega
    refine ⟨?_, ?_, by omega⟩
    · rw [Tr.get_set _ _ _ hlt, if_neg hk]; exact h1
    · rw [Gup.ne G _ hk]; exact h2
  · rw [Gup.ne G _ (by omega)]; exact R.fresh k (by omega)
  · rcases cs _ _ _ _ _ e with ⟨a1, e1⟩ | ⟨a1, g1, e1⟩ <;> omega
theorem Tall.rdC {o : Obj} {k : Nat → Nat → Nat → Nat → Nat → T} (H : Tall φ (rdC T.fail o k)) : ∃ f n1 c1 n2 c2, o = .clo f n1 c1 n2 c2 ∧ Tall φ (k f n1 c1 n2 c2) := by
  cases o <;> first | exact H.elim | exact ⟨_, _, _, _, _, rfl, H⟩
/-- what stands behind the arguments: the function's value, the box of the map -/
theorem apq_args {k : Bool} {el fk f e0 : Nat} {args : Array Value} {kv : KV} (R : Rel P pb pn G h nx w) (ha : ∀ i, i < args.size → VRel G (gF e0 i) (args.getD i undef)) (H : Tall φ (apq k el fk f args.size e0 h nx kv)) :
    ∃ Bm mv mc, args = #[.slice none 0 0, .func (.func fk) #[] #[.pointer (some ⟨Bm, 0, none⟩)]] ∧ Bm < w.heap.size ∧ w.cell? ⟨Bm, 0, none⟩ = some mv ∧ VRel G mc mv ∧ Tall φ (apqM k el mc h nx kv) := by
  obtain ⟨h2, H2⟩ := Tall.chk H
  have h2 : args.size = 2 := Nat.eq_of_beq_eq_true h2
  obtain ⟨h0, H2⟩ := Tall.chk H2
  have h0 : gF e0 0 = 6 := Nat.eq_of_beq_eq_true h0
  obtain ⟨h1, H2⟩ := Tall.chk H2
  have a0 := ha 0 (by omega)
  have a1 := ha 1 (by omega)
  obtain ⟨e0', _⟩ := a0.inv_nils (by rw [h0])
  obtain ⟨nm, fn, cx, cy, hv, hc, hG, hn⟩ := a1.inv_fn (isT_ok h1)
  rw [hc, adN_F hn] at H2
  obtain ⟨f', n1, c1, n2, c2, ho, H2⟩ := Tall.rdC H2
  obtain ⟨hf, H2⟩ := Tall.chk H2
  obtain ⟨hn1, H2⟩ := Tall.chk H2
  obtain ⟨hn2, H2⟩ := Tall.chk H2
  obtain ⟨h5, H2⟩ := Tall.chk H2
  obtain ⟨hz, H9⟩ := Tall.chk H2
  have hf : f' = fk := Nat.eq_of_beq_eq_true hf
  have hn1 : n1 = 0 := Nat.eq_of_beq_eq_true hn1
  have hn2 : n2 = 1 := Nat.eq_of_beq_eq_true hn2
  have hz : adO (getS c2 0) = 0 := Nat.eq_of_beq_eq_true hz
  have hO := R.obj nm (by rw [hG]; simp)
  rw [ho] at hO
  obtain ⟨cx', cy', g1, g2, g3, g4, g5⟩ := hO
  rw [hG] at g1
  injection g1 with g1
  injection g1 with g1
  injection g1 with q0 q1 q2
  subst q0 q1 q2 hf hn1 hn2
  obtain ⟨nb, off, b, s0, tot, sz, hx, hcb, hGb, hnb, hob⟩ := (g5 0 (by omega)).inv_ptr (isT_ok h5)
  rw [hcb, adO_P hnb] at hz
  subst hz
  rw [hcb, adN_P hnb] at H9
  obtain ⟨cl, fz, el', n, r, hor, H9⟩ := Tall.wrR H9
  obtain ⟨hcl, H8⟩ := Tall.chk H9
  obtain ⟨hpos, H7⟩ := Tall.chk H8
  subst hcl
  have hpos : 0 < n := blt_ok hpos
  obtain ⟨cs, el'', fr, RA, hsz, htot⟩ := R.row hGb (.inl ⟨_, _, _, hor⟩)
  have hs0 : s0 = 0 := by
    have hO := R.obj nb (by rw [hGb]; simp)
    rw [hor] at hO
    obtain ⟨b', s', tot', sz', cs', lo, hi, k1, k2, k3, k4, k5, _⟩ := hO
    rw [hGb] at k1
    injection k1 with k1
    injection k1 with e1 e2 e3 e4
    rw [e2]; exact (k5 rfl).1
  subst hs0
  have hcell := RA.cell hpos
  rw [Nat.zero_add] at hcell
  have hrel := (RA.rel 0 hpos).1
  rw [Nat.zero_add] at hrel
  refine ⟨b, _, getS r 0, ?_, R.bd _ _ _ _ _ hGb, hcell, hrel, H7⟩
  have hx0 : cx = #[] := Array.eq_empty_of_size_eq_zero g2
  have hy0 : cy = #[.pointer (some ⟨b, 0, none⟩)] := by
    apply Array.ext
    · simp [g3]
    · intro i h1 h2
      have hi : i = 0 := by simp at h2; omega
      subst hi
      have := hx
      rw [Array.getD_eq_getD_getElem?, Array.getElem?_eq_getElem h1] at this
      simpa using this
  subst hx0 hy0
  apply Array.ext
  · simp [h2]
  · intro i k1 k2
    have : args[i] = args.getD i undef := by rw [Array.getD_eq_getD_getElem?, Array.getElem?_eq_getElem k1]; rfl
    rw [this]
    have hi : i = 0 ∨ i = 1 := by omega
    rcases hi with rfl | rfl
    · exact e0'
    · exact hv
/-- the one cell of a row that the call has made -/
theorem one_row {g0 e : Nat} {v x : Value} (h : w'.ownsRow g0 e 1 v 1 [x]) : ∃ g cap cur, v = .slice (some ⟨g, 0, none⟩) 1 cap ∧ g0 ≤ g ∧ w'.heap[g]? = some (.cells cur e (0, 0)) ∧ 1 ≤ cap ∧ cur.size = cap ∧ cur.getD 0 undef = x := by
  obtain ⟨_, h⟩ := h
  rcases h with ⟨_, h0⟩ | ⟨g, cap, cur, h1, h2, h3, h4, h5, h6, h7⟩
  · cases h0
  · refine ⟨g, cap, cur, h1, h2, h3, h4, by omega, ?_⟩
    have : 0 < cur.size := by omega
    rw [Array.getD_eq_getD_getElem?, Array.getElem?_eq_getElem this]
    cases hl : cur.toList with
    | nil => rw [hl] at h7; cases h7
    | cons a r =>
      rw [hl] at h7
      simp at h7
      have h8 : cur[0] = cur.toList[0]'(by simpa using this) := by simp
      simp only [Option.getD_some]
      rw [h8]
      simp only [hl]
      simpa using h7
theorem row1_ok {el kc g cap : Nat} {cur : Array Value} {x : Value} {kv : KV} {Q : Ending → World → Prop} (R : Rel P pb pn G h nx w) (hb : Below w.heap.size w w') (hs : szOf P el = some 1) (hg : w.heap.size ≤ g) (hc : w'.heap[g]? = some (.cells cur el (0, 0))) (hcap : 1 ≤ cap) (hsz : cur.size = cap) (hx : cur.getD 0 undef = x) (hv : VRel G kc x) (h1 : x.oneCell' = true)
    (H : Tall φ (newR 0 el 1 kc h nx 1 kv)) (hk : ∀ G' h' nx' w' c v, Gle G G' → Rel P pb pn G' h' nx' w' → VRel G' c v → Tall φ (kv c h' nx') → Q (.returned v) w') : Q (.returned (.slice (some ⟨g, 0, none⟩) 1 cap)) w' := by
  obtain ⟨hnx, H⟩ := Tall.chk H
  have hN : G nx = none := R.fresh nx (Nat.le_refl _)
  have hgl : Gle G (Gup G nx (.blk g 0 cap 1)) := Gup.le hN
  have hgs : g < w'.heap.size := (Array.getElem?_eq_some_iff.1 hc).1
  refine hk _ _ _ w' _ _ hgl (R.nameAt (o := .row false 0 el 1 kc) (g := g) (s := 0) (tot := cap) (sz := 1) hb.size (fun b hbl => hb.block b hbl) hg hgs (nxOk hnx) ⟨g, 0, cap, 1, cur, 0, 0, Gup.at _ _ _, hc, hsz, by omega, (fun h => by cases h), .inl rfl, hs, fun i hi => ?_⟩ ⟨hb.os, hb.output⟩) ?_ H
  · have hi : i = 0 := by omega
    subst hi
    rw [getS_0' hv.lt, Nat.zero_add, hx]
    exact ⟨hv.mono hgl, h1⟩
  · exact .sl nx 0 1 0 cap g 0 cap 1 (Gup.at _ _ _) R.nxb (by omega) (by omega) (by omega) (by rw [if_pos rfl]; omega) hcap
/-- what the call hands back, by what the iterator gives: nothing, or one key -/
theorem apq_end {α : Type} {enc : α → Value} {S : List α → Prop} {F el : Nat} {args : Array Value} {kv : KV} {Q : Ending → World → Prop} (R : Rel P pb pn G h nx w) (hs : szOf P el = some 1)
    (C : Calls P F args w fun e w' => ∃ (v : Value) (ss : List α), e = .returned v ∧ S ss ∧ w'.ownsRow w.heap.size el 1 v ss.length (ss.map enc) ∧ (v = .slice none 0 0 ↔ ss = []) ∧ Below w.heap.size w w')
    (K : ((∀ ss, S ss → ss = []) ∧ Tall φ (kv 6 h nx)) ∨ ∃ x kc, (∀ ss, S ss → ss = [x]) ∧ VRel G kc (enc x) ∧ (enc x).oneCell' = true ∧ Tall φ (newR 0 el 1 kc h nx 1 kv))
    (hk : ∀ G' h' nx' w' c v, Gle G G' → Rel P pb pn G' h' nx' w' → VRel G' c v → Tall φ (kv c h' nx') → Q (.returned v) w') : Calls P F args w Q := by
  refine C.mono fun e w' hh => ?_
  obtain ⟨v, ss, rfl, hS, hrow, hnil, hb⟩ := hh
  rcases K with ⟨K1, K2⟩ | ⟨x, kc, K1, K2, K3, K4⟩
  · have hss := K1 ss hS
    have hv := hnil.2 hss
    subst hv
    exact hk G h nx w' 6 _ Gle.rfl (R.keep hb.size (fun b hbl => hb.block b hbl) ⟨hb.os, hb.output⟩) .nils K2
  · have hss := K1 ss hS
    subst hss
    obtain ⟨g, cap, cur, rfl, h2, h3, h4, h5, h6⟩ := one_row (x := enc x) (by simpa using hrow)
    exact row1_ok R hb hs h2 h3 h4 h5 h6 K2 K3 K4 hk
def anyR : Value → Option (DataW Unit × List MemPlace) := fun _ => some (.lit (.bool false), [])
/-- a map of one entry, in the kit's words -/
theorem owns1 {k b clock : Nat} {en : MapEntry} {kl : Lit} (hb : w.heap[b]? = some (.map #[en] clock)) (hk : _root_.Go.keyOf P k en.key = some kl) (hc : en.born < clock) : w.ownsMap P k anyR b 1 (.map [(kl, .lit (.bool false))]) := by
  have hrd : rd P k anyR en = some (kl, .lit (.bool false)) := by unfold rd anyR; rw [hk]; rfl
  refine ⟨#[en], clock, hb, ⟨by simp [maxLen], ⟨by simpa using hc, by simp, by simp⟩, by simpa using ⟨_, _, hrd⟩⟩, by simp, ?_⟩
  simp [rg, hrd, DataW.insert]
theorem owns0 {k b clock : Nat} (hb : w.heap[b]? = some (.map #[] clock)) : w.ownsMap P k anyR b 0 (.map []) :=
  ⟨#[], clock, hb, ⟨by simp, ⟨by simp, by simp, by simp⟩, by simp⟩, by simp, by simp⟩
/-- the map that stands in the box: none, of no entry, of one -/
theorem apq_map {kI : Bool} {el mc : Nat} {mv : Value} {kv : KV} (R : Rel P pb pn G h nx w) (hv : VRel G mc mv) (H : Tall φ (apqM kI el mc h nx kv)) :
    (mv = .map none ∧ Tall φ (kv 6 h nx)) ∨ (∃ b clock, mv = .map (some b) ∧ w.heap[b]? = some (.map #[] clock) ∧ Tall φ (kv 6 h nx)) ∨ (∃ b clock en kc, mv = .map (some b) ∧ w.heap[b]? = some (.map #[en] clock) ∧ en.born < clock ∧ VRel G kc en.key ∧ keyI kI kc h = true ∧ Tall φ (newR 0 el 1 kc h nx 1 kv)) := by
  rcases Tall.cases H with ⟨h8, H⟩ | ⟨h8, H⟩
  · obtain ⟨h9, H⟩ := Tall.chk H
    obtain ⟨nm, b, s, tot, sz, hx, hc, hG, hn⟩ := hv.inv_map (isT_ok h9)
    rw [hc, adN_M hn] at H
    obtain ⟨ro, clock, n, c, ho, H⟩ := Tall.rdM H
    obtain ⟨es, hes, hsz, hent⟩ := R.mapO hG ho
    rcases n with _ | n'
    · have : es = #[] := Array.eq_empty_of_size_eq_zero hsz
      subst this
      exact .inr (.inl ⟨b, clock, hx, hes, H⟩)
    · rcases n' with _ | n''
      · obtain ⟨en, rfl⟩ : ∃ en, es = #[en] := by
          have h0 : 0 < es.size := by omega
          refine ⟨es[0], Array.ext (by simp [hsz]) fun i h1 h2 => ?_⟩
          have : i = 0 := by simp at h2; omega
          subst this; rfl
        obtain ⟨e1, e2, e3⟩ := hent 0 en rfl
        have H : Tall φ (chk (Nat.blt (getS c 2) clock) (chk (keyI kI (getS c 0) h) (newR 0 el 1 (getS c 0) h nx 1 kv))) := H
        obtain ⟨hbo, H⟩ := Tall.chk H
        obtain ⟨hki, H⟩ := Tall.chk H
        have hbo : getS c 2 < clock := blt_ok hbo
        exact .inr (.inr ⟨b, clock, en, getS c 0, hx, hes, by rw [← e3]; exact hbo, e1, hki, H⟩)
      · exact H.elim
  · have h8 : mc = 8 := Nat.eq_of_beq_eq_true h8
    exact .inl ⟨(hv.inv_nilm (by rw [h8])).1, H⟩
open Go.Shelf in
theorem apqI_ok {ρ : Ren} (L10 : SlLaysZI.n10 P ρ) (L11 : SlLaysZI.n11 P ρ) {f e0 : Nat} {args : Array Value} {kv : KV} {Q : Ending → World → Prop} (R : Rel P pb pn G h nx w) (ha : ∀ i, i < args.size → VRel G (gF e0 i) (args.getD i undef)) (H : Tall φ (apq true (ρ.t 26) (ρ.f 10) f args.size e0 h nx kv))
    (hk : ∀ G' h' nx' w' c v, Gle G G' → Rel P pb pn G' h' nx' w' → VRel G' c v → Tall φ (kv c h' nx') → Q (.returned v) w') : Calls P (ρ.f 11) args w Q := by
  obtain ⟨Bm, mv, mc, rfl, hB, hm, hv, H⟩ := apq_args R ha H
  have hs : szOf P (ρ.t 26) = some 1 := by
    have := L11.i26
    cases hi : P.info? (ρ.t 26) with
    | none => rw [hi] at this; cases this
    | some i => rw [hi] at this; simp at this; simp [szOf, hi, this.2.1]
  have e10 : ∀ args w, (callFunc (ρ.f 10) args).run P w = .ok (.enter (ρ.f 10) args) w := L10.f10.enters rfl
  have C : ∀ (S : List Int → Prop) (n : Nat), n ≤ 1 → SeqGives Fence.wide 1 P (ρ.f 10) #[.pointer (some ⟨Bm, 0, none⟩)] encZ S n w → _ := fun S n hn hq => callsIn_wide.1 (AnyZI.appendSeq_in L11 Fence.wide 2 trivial rfl (Nat.le_refl _) (ρ.f 10) #[.pointer (some ⟨Bm, 0, none⟩)] trivial e10 S n (by simp [maxLen]; omega) (by omega) w hq)
  rcases apq_map R hv H with ⟨rfl, H⟩ | ⟨b, clock, rfl, hb, H⟩ | ⟨b, clock, en, kc, rfl, hb, hbo, hke, hki, H⟩
  · exact apq_end R hs (C _ 0 (by omega) (AnyZI.keys_gives_nil L10 Fence.wide 1 trivial rfl Bm w hB hm)) (.inl ⟨fun ss h => h, H⟩) hk
  · exact apq_end R hs (C _ 0 (by omega) (AnyZI.keys_gives L10 Fence.wide 1 trivial rfl (Nat.le_refl _) Bm b 0 _ w hB hm (owns0 hb))) (.inl ⟨fun ss h => List.Perm.eq_nil h, H⟩) hk
  · obtain ⟨n, p, hkv, hkc, hp, hpm⟩ := hke.num (isN_ok (show isN .i64 kc = true from hki))
    have hwf : (Lit.int .i64 n).wf = true := by
      have hp : n + 9223372036854775808 = (p : Int) := hp
      have hpm : p < 18446744073709551616 := hpm
      have h1 : IntKind.min .i64 = -9223372036854775808 := by decide
      have h2 : IntKind.max .i64 = 9223372036854775807 := by decide
      simp only [Lit.wf, h1, h2, Bool.and_eq_true, decide_eq_true_eq]
      constructor <;> omega
    have hko : _root_.Go.keyOf P (ρ.t 26) en.key = some (.int .i64 n) := by rw [hkv]; exact keyOf_int_mk L10.t26 hwf
    refine apq_end R hs (C _ 1 (by omega) (AnyZI.keys_gives L10 Fence.wide 1 trivial rfl (Nat.le_refl _) Bm b 1 _ w hB hm (owns1 hb hko hbo))) (.inr ⟨n, kc, fun ss h => List.perm_singleton.1 h, ?_, rfl, H⟩) hk
    show VRel G kc (.int .i64 n)
    rw [← hkv]; exact hke
open Go.Shelf in
theorem apqS_ok {ρ : Ren} (L10 : SlLaysZ.n10 P ρ) (L11 : SlLaysZ.n11 P ρ) {f e0 : Nat} {args : Array Value} {kv : KV} {Q : Ending → World → Prop} (R : Rel P pb pn G h nx w) (ha : ∀ i, i < args.size → VRel G (gF e0 i) (args.getD i undef)) (H : Tall φ (apq false (ρ.t 26) (ρ.f 10) f args.size e0 h nx kv))
    (hk : ∀ G' h' nx' w' c v, Gle G G' → Rel P pb pn G' h' nx' w' → VRel G' c v → Tall φ (kv c h' nx') → Q (.returned v) w') : Calls P (ρ.f 11) args w Q := by
  obtain ⟨Bm, mv, mc, rfl, hB, hm, hv, H⟩ := apq_args R ha H
  have hs : szOf P (ρ.t 26) = some 1 := by
    have := L11.i26
    cases hi : P.info? (ρ.t 26) with
    | none => rw [hi] at this; cases this
    | some i => rw [hi] at this; simp at this; simp [szOf, hi, this.2.1]
  have e10 : ∀ args w, (callFunc (ρ.f 10) args).run P w = .ok (.enter (ρ.f 10) args) w := L10.f10.enters rfl
  have C : ∀ (S : List (List UInt8) → Prop) (n : Nat), n ≤ 1 → SeqGives Fence.wide 1 P (ρ.f 10) #[.pointer (some ⟨Bm, 0, none⟩)] encStr S n w → _ := fun S n hn hq => callsIn_wide.1 (AnyZ.appendSeq_in L11 Fence.wide 2 trivial rfl (Nat.le_refl _) (ρ.f 10) #[.pointer (some ⟨Bm, 0, none⟩)] trivial e10 S n (by simp [maxLen]; omega) (by omega) w hq)
  rcases apq_map R hv H with ⟨rfl, H⟩ | ⟨b, clock, rfl, hb, H⟩ | ⟨b, clock, en, kc, rfl, hb, hbo, hke, hki, H⟩
  · exact apq_end R hs (C _ 0 (by omega) (AnyZ.keys_gives_nil L10 Fence.wide 1 trivial rfl Bm w hB hm)) (.inl ⟨fun ss h => h, H⟩) hk
  · exact apq_end R hs (C _ 0 (by omega) (AnyZ.keys_gives L10 Fence.wide 1 trivial rfl (Nat.le_refl _) Bm b 0 _ w hB hm (owns0 hb))) (.inl ⟨fun ss h => List.Perm.eq_nil h, H⟩) hk
  · obtain ⟨bs, hkv, hlen⟩ : ∃ bs : ByteArray, en.key = .string bs ∧ bs.size < 1000000 := by
      have hki : (Bool.rec (Nat.beq kc 16) (Nat.blt (txL (h.get (adN kc))) 1000000) (isT 3 kc) : Bool) = true := hki
      cases h3 : isT 3 kc with
      | false =>
        rw [h3] at hki
        exact ⟨_, hke.inv_16 (Nat.eq_of_beq_eq_true hki), by decide⟩
      | true =>
        rw [h3] at hki
        obtain ⟨nm, bs, hv', hc, hG, hn⟩ := hke.inv_str (isT_ok h3)
        have hki : Nat.blt (txL (h.get (adN kc))) 1000000 = true := hki
        rw [hc, adN_S hn] at hki
        have hki := blt_ok hki
        have hO := R.obj nm (by rw [hG]; simp)
        refine ⟨bs, hv', ?_⟩
        cases ho : h.get nm with
        | txt n c =>
          rw [ho] at hO hki
          obtain ⟨bs', k1, k2, _⟩ := hO
          rw [hG] at k1
          injection k1 with k1
          injection k1 with k1
          injection k1 with k1
          subst k1
          have hki : n < 1000000 := hki
          omega
        | _ => rw [ho] at hki; exact absurd hki (by simp [txL])
    have hko : _root_.Go.keyOf P (ρ.t 26) en.key = some (.string bs.data.toList) := by
      rw [hkv]
      simp only [_root_.Go.keyOf, L10.t26, mapKey]
      rw [if_pos (by simp only [maxLen]; omega)]
    have hes : encStr bs.data.toList = en.key := by rw [hkv]
    refine apq_end R hs (C _ 1 (by omega) (AnyZ.keys_gives L10 Fence.wide 1 trivial rfl (Nat.le_refl _) Bm b 1 _ w hB hm (owns1 hb hko hbo))) (.inr ⟨bs.data.toList, kc, fun ss h => List.perm_singleton.1 h, ?_, rfl, H⟩) hk
    rw [hes]; exact hke
end Go.Ev
