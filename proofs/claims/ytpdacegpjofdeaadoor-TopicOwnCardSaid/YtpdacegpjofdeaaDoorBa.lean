/- A drawn region that ends in stores: the condition S is held up to number m alone, where all that stand behind it wait for all ahead of it ('wpAnyB'; 'RB.' are the 'R.' lemmas for it). -/
import Derived.Test.YtpdacegpjofdeaaDoorMo
set_option linter.all false
namespace Go.Hub
open Go.RowKit

def upto (m : Nat) (l : Array Bool) : Bool := (List.range m).all fun i => l.getD i true
def barrier (md : Region.Mode) (ops : Array Oper) (m : Nat) : Bool := (List.range ops.size).all fun j => Nat.blt j m || (List.range m).all fun i => match ops[j]? with | some o => o.after.any fun e => Region.binds md e && Nat.beq e.on i | none => true
def wpAnyB (P : Program) (md : Region.Mode) (ops : Array Oper) (Q : Exit → Act → World → Prop) (S : World → Prop) (m : Nat) : Nat → Array Bool → Act → World → Prop
  | 0, listed, a, w => Region.ready md ops listed = [] ∧ Q .normal a w
  | fuel + 1, listed, a, w => if upto m listed = true then wpAnyH P md ops Q (fun _ => True) (fuel + 1) listed a w else
    (Region.ready md ops listed = [] → Q .normal a w) ∧
    ∀ i ∈ Region.ready md ops listed, wpOp P ops Q i (fun a' w' => S w' ∧ wpAnyB P md ops Q S m fuel (listed.setIfInBounds i true) a' w') a w
section
variable {P : Program} {ops : Array Oper} {Q : Exit → Act → World → Prop} {md : Region.Mode} {S : World → Prop} {m : Nat}
theorem wpAny_of_B : ∀ (fuel : Nat) (listed : Array Bool) (a : Act) (w : World), wpAnyB P md ops Q S m fuel listed a w → wpAny P md ops Q fuel listed a w
  | 0, _, _, _, h => h
  | fuel + 1, listed, a, w, h => by
    unfold wpAnyB at h
    split at h
    · exact wpAny_of_held _ _ _ _ h
    · exact ⟨h.1, fun i hi => wpOp_mono (fun a' w' h' => wpAny_of_B fuel _ a' w' h'.2) (h.2 i hi)⟩
theorem upto_spec {l : Array Bool} (h : upto m l = true) {i : Nat} (hi : i < m) : l.getD i true = true := by
  unfold upto at h
  exact List.all_eq_true.1 h i (List.mem_range.2 hi)
theorem barrier_spec (h : barrier md ops m = true) {i j : Nat} {o : Oper} (hi : i < m) (hj : m ≤ j) (ho : ops[j]? = some o) : ∃ e ∈ o.after, Region.binds md e = true ∧ e.on = i := by
  unfold barrier at h
  have h1 := List.all_eq_true.1 h j (List.mem_range.2 (Array.getElem?_eq_some_iff.1 ho).1)
  have h2 : Nat.blt j m = false := by
    cases hb : Nat.blt j m
    · rfl
    · have := Nat.le_of_ble_eq_true hb
      omega
  rw [h2, Bool.false_or] at h1
  have h3 := List.all_eq_true.1 h1 i (List.mem_range.2 hi)
  rw [ho] at h3
  obtain ⟨e, he, hb⟩ := Array.any_eq_true'.1 h3
  rw [Bool.and_eq_true] at hb
  exact ⟨e, he, hb.1, Nat.eq_of_beq_eq_true hb.2⟩
theorem wpAnyB_first {i : Nat} {oi : Oper} {v : Value} (hi : ops[i]? = some oi) (hsel : ∀ (j : Nat) (o : Oper) cs b, ops[j]? = some o → o.op ≠ .select cs b)
    (hQ : ∀ c a w, Q (.panic c) (a.put oi.dst v) w → Q (.panic c) a w) (him : i < m) (hbar : barrier md ops m = true) :
    ∀ (fuel : Nat) (listed : Array Bool) (a : Act) (w : World),
      (∀ j oj, ops[j]? = some oj → j ≠ i → listed.getD j true = false → (∀ e ∈ oj.after, Region.binds md e = true → e.on ≠ i) → oi.apart ops oj = true) →
      i ∈ Region.ready md ops listed → YieldsIf P ops S oi v a → S w →
      wpAnyB P md ops Q S m fuel (listed.setIfInBounds i true) (a.put oi.dst v) w → wpAnyB P md ops Q S m (fuel + 1) listed a w := by
  intro fuel
  induction fuel with
  | zero =>
    intro listed a w _ hr hy hS H
    have hup : ¬ upto m listed = true := fun hu => by
      have h1 := upto_spec hu him
      rw [(mem_ready.1 hr).1] at h1
      cases h1
    unfold wpAnyB
    rw [if_neg hup]
    refine ⟨fun h => (by rw [h] at hr; cases hr), fun j hj => ?_⟩
    by_cases hji : j = i
    · subst hji; exact hy.wpOp hi hS ⟨hS, H⟩
    · have := ready_mono hj hji
      rw [H.1] at this
      cases this
  | succ fuel ih =>
    intro listed a w hfree hr hy hS H
    have hup : ¬ upto m listed = true := fun hu => by
      have h1 := upto_spec hu him
      rw [(mem_ready.1 hr).1] at h1
      cases h1
    unfold wpAnyB
    rw [if_neg hup]
    refine ⟨fun h => (by rw [h] at hr; cases hr), fun j hj => ?_⟩
    by_cases hji : j = i
    · subst hji; exact hy.wpOp hi hS ⟨hS, H⟩
    · obtain ⟨hjun, oj, hoj, hall⟩ := mem_ready.1 hj
      have hnot : ∀ e ∈ oj.after, Region.binds md e = true → e.on ≠ i := fun e he hb heq => by
        have h1 := hall e he hb
        have h0 := (mem_ready.1 hr).1
        rw [heq] at h1
        rcases Nat.lt_or_ge i listed.size with h' | h'
        · simp [h'] at h0 h1; rw [h0] at h1; cases h1
        · simp [Array.getElem?_eq_none h'] at h1
      have hjm : j < m := by
        rcases Nat.lt_or_ge j m with h | h
        · exact h
        · obtain ⟨e, he, hb, heq⟩ := barrier_spec hbar him h hoj
          exact absurd heq (hnot e he hb)
      have hup' : ¬ upto m (listed.setIfInBounds i true) = true := fun hu => by
        have h1 := upto_spec hu hjm
        rw [getD_set_ne true (Ne.symm hji), hjun] at h1
        cases h1
      unfold wpAnyB at H
      rw [if_neg hup'] at H
      have h1 := H.2 j (ready_mono hj hji)
      have h2 := wpOp_putIf hoj (hfree j oj hoj hji hjun hnot) (fun cs b => hsel i oi cs b hi) (fun cs b => hsel j oj cs b hoj) hQ hy h1
      have hfree' : ∀ k ok, ops[k]? = some ok → k ≠ i → (listed.setIfInBounds j true).getD k true = false →
          (∀ e ∈ ok.after, Region.binds md e = true → e.on ≠ i) → oi.apart ops ok = true := fun k ok hk hki hun hno => by
        refine hfree k ok hk hki ?_ hno
        by_cases hjk : j = k
        · subst hjk; exact hjun
        · rw [getD_set_ne true hjk] at hun; exact hun
      refine wpOp_mono (fun a' w' h3 => ⟨h3.2.1, ih (listed.setIfInBounds j true) a' w' hfree' (ready_mono hr (Ne.symm hji)) h3.1 h3.2.1 ?_⟩) h2
      rw [Array.setIfInBounds_comm _ _ hji]
      exact h3.2.2
theorem wpAnyB_take {i : Nat} {oi : Oper} {v : Value} {fuel : Nat} {listed : Array Bool} {a : Act} {w : World} (hi : ops[i]? = some oi) (hb : (Nat.blt i m && barrier md ops m) = true)
    (hs : Region.noSelect ops = true) (hf : Region.free md ops listed i = true) (hr : (Region.ready md ops listed).contains i = true)
    (hQ : ∀ c a w, Q (.panic c) (a.put oi.dst v) w → Q (.panic c) a w) (hy : YieldsIf P ops S oi v a) (hS : S w)
    (h : wpAnyB P md ops Q S m fuel (listed.setIfInBounds i true) (a.put oi.dst v) w) : wpAnyB P md ops Q S m (fuel + 1) listed a w :=
  wpAnyB_first hi (Region.noSelect_spec hs) hQ (Nat.le_of_ble_eq_true (Bool.and_eq_true _ _ ▸ hb).1) (Bool.and_eq_true _ _ ▸ hb).2 fuel listed a w (Region.free_spec hi hf) (by simpa using hr) hy hS h
theorem wpAnyB_all {rs : List Nat} {fuel : Nat} {listed : Array Bool} {a : Act} {w : World} (hu : upto m listed = false) (hr : Region.ready md ops listed = rs) (hne : rs ≠ [])
    (h : ∀ i ∈ rs, wpOp P ops Q i (fun a' w' => S w' ∧ wpAnyB P md ops Q S m fuel (listed.setIfInBounds i true) a' w') a w) : wpAnyB P md ops Q S m (fuel + 1) listed a w := by
  unfold wpAnyB
  rw [if_neg (by rw [hu]; simp)]
  exact ⟨fun h0 => absurd (hr ▸ h0) hne, hr ▸ h⟩
/-- all ahead of m have come up -/
theorem RB.stop {fuel : Nat} {listed : Array Bool} {a : Act} {w : World} (hu : upto m listed = true) (h : wpAnyH P md ops Q (fun _ => True) (fuel + 1) listed a w) : wpAnyB P md ops Q S m (fuel + 1) listed a w := by
  unfold wpAnyB
  rw [if_pos hu]
  exact h
end
section
variable {P : Program} {ops : Array Oper} {Q : Exit → Act → World → Prop} {md : Region.Mode} {S : World → Prop} {a : Act} {w w' : World} {n d : Nat} {l : FL} {v : Value} {o : Oper} {m : Nat}
theorem RB.begin {id : Nat} (m : Nat) (hm : P.follows .mixedOrders = true) (hS : S (w.drewN 1))
    (h : wpAnyB P .any ops Q S m ops.size (Array.replicate ops.size false) a (w.drewN 1)) : (Code.region id ops true).wp P Q a w := wp_region_any hm (wpAny_of_B _ _ _ _ h)
theorem RB.take (i : Nat) {fuel : Nat} {listed : Array Bool} (f : Fr n a l) (hi : ops[i]? = some o) (hd : o.dst = some d) (hn : d < n) (hb : (Nat.blt i m && barrier md ops m) = true) (hs : Region.noSelect ops = true) (hf : Region.free md ops listed i = true)
    (hr : (Region.ready md ops listed).contains i = true) (hQ : ∀ c (a : Act) (u : Value) w, Q (.panic c) (a.put (some d) u) w → Q (.panic c) a w) (hw : Region.wanted o (yielded ops a.tmps) = true) (hS : S w)
    (hv : ∀ w, S w → (execOp a.eval o).run P w = .ok (.value v) w)
    (hK : ∀ a', Fr n a' ((d, v) :: l) → wpAnyB P md ops Q S m fuel (listed.setIfInBounds i true) a' w) : wpAnyB P md ops Q S m (fuel + 1) listed a w := by
  refine wpAnyB_take hi hb hs hf hr (v := v) (fun c a w h => hQ c a v w (by rwa [hd] at h)) (.inl ⟨hw, hv⟩) hS ?_
  rw [hd]
  exact hK _ (f.put d v hn)
theorem RB.takeSkip (i : Nat) {fuel : Nat} {listed : Array Bool} (f : Fr n a l) (hi : ops[i]? = some o) (hd : o.dst = some d) (hn : d < n) (hb : (Nat.blt i m && barrier md ops m) = true) (hs : Region.noSelect ops = true) (hf : Region.free md ops listed i = true)
    (hr : (Region.ready md ops listed).contains i = true) (hQ : ∀ c (a : Act) (u : Value) w, Q (.panic c) (a.put (some d) u) w → Q (.panic c) a w) (hw : Region.wanted o (yielded ops a.tmps) = false) (hS : S w)
    (hK : ∀ a', Fr n a' ((d, undef) :: l) → wpAnyB P md ops Q S m fuel (listed.setIfInBounds i true) a' w) : wpAnyB P md ops Q S m (fuel + 1) listed a w := by
  refine wpAnyB_take hi hb hs hf hr (v := undef) (fun c a w h => hQ c a undef w (by rwa [hd] at h)) (.inr ⟨hw, rfl⟩) hS ?_
  rw [hd]
  exact hK _ (f.put d undef hn)
theorem RB.takeSkipN (i : Nat) {fuel : Nat} {listed : Array Bool} (f : Fr n a l) (hi : ops[i]? = some o) (hd : o.dst = none) (hb : (Nat.blt i m && barrier md ops m) = true) (hs : Region.noSelect ops = true) (hf : Region.free md ops listed i = true)
    (hr : (Region.ready md ops listed).contains i = true) (hw : Region.wanted o (yielded ops a.tmps) = false) (hS : S w)
    (hK : wpAnyB P md ops Q S m fuel (listed.setIfInBounds i true) a w) : wpAnyB P md ops Q S m (fuel + 1) listed a w := by
  refine wpAnyB_take hi hb hs hf hr (v := undef) (fun c a w h => by rw [hd] at h; exact h) (.inr ⟨hw, rfl⟩) hS ?_
  rw [hd]
  exact hK
theorem RB.call (i : Nat) {fuel : Nat} {listed : Array Bool} (f : Fr n a l) (hi : ops[i]? = some o) (hd : o.dst = some d) (hn : d < n) (hu : upto m listed = false) (hr : Region.ready md ops listed = [i]) (hw : Region.wanted o (yielded ops a.tmps) = true)
    {fn : Nat} {args : Array Value} (h : (execOp a.eval o).run P w = .ok (.enter fn args) w) {R : Ending → World → Prop} (hc : Calls P fn args w R)
    (hR : ∀ e w', R e w' → ∃ v, e = .returned v ∧ S w' ∧ ∀ a', Fr n a' ((d, v) :: l) → wpAnyB P md ops Q S m fuel (listed.setIfInBounds i true) a' w') : wpAnyB P md ops Q S m (fuel + 1) listed a w := by
  refine wpAnyB_all hu hr (by simp) ?_
  intro j hj
  simp only [List.mem_singleton] at hj
  subst hj
  unfold wpOp
  simp only [hi, hw, if_true]
  refine .inl ?_
  unfold Oper.wp
  rw [h]
  refine Calls.mono hc ?_
  intro e w' hr
  obtain ⟨v, rfl, hS, hK⟩ := hR e w' hr
  show S w' ∧ wpAnyB P md ops Q S m fuel (listed.setIfInBounds j true) (a.put o.dst v) w'
  rw [hd]
  exact ⟨hS, hK _ (f.put d v hn)⟩
theorem RB.one (i : Nat) {fuel : Nat} {listed : Array Bool} (hu : upto m listed = false) (hr : Region.ready md ops listed = [i]) (h : wpOp P ops Q i (fun a w => S w ∧ wpAnyB P md ops Q S m fuel (listed.setIfInBounds i true) a w) a w) : wpAnyB P md ops Q S m (fuel + 1) listed a w :=
  wpAnyB_all hu hr (by simp) fun j hj => by
    simp only [List.mem_singleton] at hj
    subst hj
    exact h
theorem RB.two (i j : Nat) {fuel : Nat} {listed : Array Bool} (hu : upto m listed = false) (hr : Region.ready md ops listed = [i, j]) (h : wpOp P ops Q i (fun a w => S w ∧ wpAnyB P md ops Q S m fuel (listed.setIfInBounds i true) a w) a w)
    (h' : wpOp P ops Q j (fun a w => S w ∧ wpAnyB P md ops Q S m fuel (listed.setIfInBounds j true) a w) a w) : wpAnyB P md ops Q S m (fuel + 1) listed a w :=
  wpAnyB_all hu hr (by simp) fun k hk => by
    simp only [List.mem_cons, List.not_mem_nil, or_false] at hk
    rcases hk with rfl | rfl
    · exact h
    · exact h'
end
/-! ### stores in a region whose condition holds of any world -/
section
variable {P : Program} {ops : Array Oper} {Q : Exit → Act → World → Prop} {a : Act} {w : World} {n d : Nat} {l : FL} {v : Value} {ty : TypeId} {ps : String} {af : Array Edge} {gd : Option (Nat × Bool)} {x y : Operand} {t : TypeId} {K : Act → World → Prop} {i : Nat}
theorem OT.store (f : Fr n a l) (hio : ops[i]? = some ⟨none, .store t x y, ty, ps, af, gd⟩) (hw : Region.wanted ⟨none, .store t x y, ty, ps, af, gd⟩ (yielded ops a.tmps) = true) (hi : (P.info? t).map (·.size) = some 1) {g o : Nat} {e : TypeId} {cs : Array Value} (hx : evl l x = some (.pointer (some ⟨g, o, none⟩))) (hy : evl l y = some v) (h1 : v.oneCell' = true)
    (B : Blk w g e cs) (ho : o < cs.size) (hK : ∀ a' w', Fr n a' l → Blk w' g e (cs.setIfInBounds o v) → Kept [g] w w' → K a' w') : wpOp P ops Q i (fun a w => True ∧ K a w) a w :=
  O.act (S := fun _ => True) f hio rfl hw (E.store f hi hx hy h1 (B.cell_ (Array.getElem?_eq_getElem ho)) (B.frozen o)) trivial fun a' f' => hK a' _ f' (B.set_ o v) (setCell_kept w g o v)
theorem OT.storeR (f : Fr n a l) (hio : ops[i]? = some ⟨none, .store t x y, ty, ps, af, gd⟩) (hw : Region.wanted ⟨none, .store t x y, ty, ps, af, gd⟩ (yielded ops a.tmps) = true) {g : Nat} {e : TypeId} {cs cs' : Array Value} {s : Nat} (hi : (P.info? t).map (·.size) = some s) (hx : evl l x = some (.pointer (some ⟨g, 0, none⟩))) (hy : evl l y = some (.agg cs')) (h1 : cs'.toList.all (·.oneCell') = true)
    (B : Blk w g e cs) (hs : cs'.size = cs.size) (hl : cs'.size = s) (hK : ∀ a' w', Fr n a' l → Blk w' g e cs' → Kept [g] w w' → K a' w') : wpOp P ops Q i (fun a w => True ∧ K a w) a w :=
  O.act (S := fun _ => True) f hio rfl hw (E.storeR f (hl ▸ hi) hx hy (by simpa using h1) (B.there (by omega))) trivial fun a' f' => hK a' _ f' (setCells_blk B cs' hs) (setCells_kept w g 0 _)
end
/-! ### on frames -/
theorem Mod.of_own {T : List TypeId} {M : List Nat} {B : Nat} {w w' : World} {e : TypeId} {size n c : Nat} {A : Option Addr} {xs : List Value} (hk : Kept (Value.slice A n c).ownBlock.toList w w') (ho : Own w e size (.slice A n c) n xs) (hB : ∀ a, A = some a → B ≤ a.block) (he : e ∈ T) : Mod T M B w w' := .of_kept hk fun x hx _ => by
  have hb := (own_block A n c x).1 (by simpa using hx)
  refine ⟨?_, .inl (own_typ ho hb he)⟩
  cases A with
  | none => simp at hb
  | some a => simp at hb; subst hb; exact hB a rfl
theorem own_ne {w : World} {e t : TypeId} {size n c k g : Nat} {A : Option Addr} {xs : List Value} {cs : Array Value} (ho : Own w e size (.slice A n c) k xs) (h : Blk w g t cs) (hte : t ≠ e) : g ∉ (Value.slice A n c).ownBlock.toList := fun hx => by
  obtain ⟨_, cs', h2⟩ := ho.blk g (by simpa using hx)
  unfold Blk at h
  rw [h] at h2
  injection h2 with h2
  injection h2 with _ h3 _
  exact hte h3
theorem own_old {w : World} {e : TypeId} {size n c k g : Nat} {A : Option Addr} {xs : List Value} (ho : Own w e size (.slice A n c) k xs) (h : w.heap.size ≤ g) : g ∉ (Value.slice A n c).ownBlock.toList := fun hx => by
  have := (ho.blk g (by simpa using hx)).1
  omega
end Go.Hub
namespace Go.Hub
open Go.RowKit
theorem Mod.of_own1 {T : List TypeId} {M : List Nat} {B : Nat} {w w' : World} {e : TypeId} {size n c b off k : Nat} {A : Option Addr} {xs : List Value} (hA : A = some ⟨b, off, none⟩) (hk : Kept [b] w w') (ho : Own w e size (.slice A n c) k xs) (hB : ∀ a, A = some a → B ≤ a.block) (he : e ∈ T) : Mod T M B w w' := .of_kept hk fun x hx _ => by
  obtain rfl := List.mem_singleton.1 hx
  exact ⟨hB _ hA, .inl (own_typ ho (by rw [hA]; rfl) he)⟩
section
variable {P : Program} {ops : Array Oper} {rest : List Oper} {a : Act} {w : World} {Q : Exit → Act → World → Prop} {n d : Nat} {l : FL} {v : Value} {ty : TypeId} {ps : String} {af : Array Edge} {gd : Option (Nat × Bool)} {x y : Operand} {t : TypeId}
theorem L.storeO (f : Fr n a l) (hw : Region.wanted ⟨none, .store t x y, ty, ps, af, gd⟩ (yielded ops a.tmps) = true) (hi : (P.info? t).map (·.size) = some 1) {b off o j : Nat} {e : TypeId} {size k c : Nat} {A : Option Addr} {xs : List Value} (hA : A = some ⟨b, off, none⟩) (O : Own w e size (.slice A k c) k xs) (hx : evl l x = some (.pointer (some ⟨b, o, none⟩))) (ho : o = off + j) (hj : j < xs.length) (hy : evl l y = some v) (h1 : v.oneCell' = true)
    (hK : ∀ a' w', Fr n a' l → Own w' e size (.slice A k c) k (xs.set j v) → Kept [b] w w' → wpList P ops Q rest a' w') : wpList P ops Q (⟨none, .store t x y, ty, ps, af, gd⟩ :: rest) a w := by
  subst ho
  obtain ⟨⟨old, h2⟩, h3, h4⟩ := O.set_ hA hj v
  exact L.act f hw rfl (E.store f hi hx hy h1 h2 h3) fun a' f' => hK a' _ f' h4 (setCell_kept w b _ v)
end
section
variable {M : Type} (cell : M → List Value) (size : Nat) (hs : ∀ m, (cell m).length = size)
include hs
theorem flat_take : ∀ (l : List M) (i : Nat), (l.take i).flatMap cell = (l.flatMap cell).take (i * size)
  | [], i => by simp
  | a :: r, 0 => by simp
  | a :: r, i + 1 => by
    have h1 : (cell a).length ≤ (i + 1) * size := by rw [hs, Nat.add_mul]; omega
    have h2 : (i + 1) * size - (cell a).length = i * size := by rw [hs, Nat.add_mul]; omega
    rw [List.take_succ_cons, List.flatMap_cons, List.flatMap_cons, flat_take r i, List.take_append, h2, List.take_of_length_le h1]
theorem flat_drop : ∀ (l : List M) (i : Nat), (l.drop i).flatMap cell = (l.flatMap cell).drop (i * size)
  | [], i => by simp
  | a :: r, 0 => by simp
  | a :: r, i + 1 => by
    have h1 : (cell a).length ≤ (i + 1) * size := by rw [hs, Nat.add_mul]; omega
    have h2 : (i + 1) * size - (cell a).length = i * size := by rw [hs, Nat.add_mul]; omega
    rw [List.drop_succ_cons, List.flatMap_cons, flat_drop r i, List.drop_append, h2, List.drop_of_length_le h1, List.nil_append]
end
end Go.Hub
namespace Go.Hub
open Go.RowKit
section
variable {P : Program} {ops : Array Oper} {a : Act} {w : World} {Q : Exit → Act → World → Prop} {n d : Nat} {l : FL} {v : Value} {ty : TypeId} {ps : String} {af : Array Edge} {gd : Option (Nat × Bool)} {x y : Operand} {t k e : TypeId} {Sw : World → Prop} {K : Act → World → Prop} {m : Nat} {S : List Int}
theorem O.drop {i : Nat} {o : Oper} {w' : World} (f : Fr n a l) (hi : ops[i]? = some o) (hd : o.dst = none) (hw : Region.wanted o (yielded ops a.tmps) = true)
    (hv : (execOp a.eval o).run P w = .ok (.value v) w') (hS : Sw w') (hK : ∀ a', Fr n a' l → K a' w') : wpOp P ops Q i (fun a w => Sw w ∧ K a w) a w := by
  unfold wpOp
  simp only [hi, hw, if_true]
  refine .inl ?_
  unfold Oper.wp
  rw [hv]
  show Sw w' ∧ K (a.put o.dst v) w'
  rw [hd]
  exact ⟨hS, hK _ f⟩
theorem O.mapDrop {q : Nat} (f : Fr n a l) (ho : ops[q]? = some ⟨none, .call { callee := .builtin .delete, args := #[x, y], argTypes := #[t, k] }, ty, ps, af, gd⟩) (hw : Region.wanted ⟨none, .call { callee := .builtin .delete, args := #[x, y], argTypes := #[t, k] }, ty, ps, af, gd⟩ (yielded ops a.tmps) = true) (h : IsSet P k e w m S) (hk : P.underlying k = some (.int .i64)) (ht : P.underlying t = some (.map k e)) {i : Int} (hx : evl l x = some (.map (some m))) (hy : evl l y = some (.int .i64 i)) (hi : (Lit.int .i64 i).wf = true)
    (hSw : ∀ w', Kept [m] w w' → Sw w') (hK : ∀ a' w', IsSet P k e w' m (S.erase i) → Kept [m] w w' → Fr n a' l → K a' w') : wpOp P ops Q q (fun a w => Sw w ∧ K a w) a w := by
  obtain ⟨w', hrun, r1, r2⟩ := h.drop hk ht hi ty
  exact O.drop f ho rfl hw (E.mapDrop f hx hy hrun) (hSw w' r2) fun a' f' => hK a' w' r1 r2 f'
end
end Go.Hub
