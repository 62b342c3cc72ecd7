/- The step library, part 1: frames by their known slots ('Fr'), and what each operation comes to ('E.'). -/
import Derived.Test.YtpdacegpjofdeaaDoorMem
import Derived.Deep.LoopGhost
import Derived.Deep.RegionHeld
import Derived.IntWalk
set_option linter.all false
namespace Go.Hub
open Go.RowKit

abbrev FL := List (Nat × Value)
def look : FL → Nat → Option Value
  | [], _ => none
  | (i, v) :: r, j => bif i == j then some v else look r j
def evl (l : FL) : Operand → Option Value
  | .tmp t => look l t
  | .const v => some v
  | .global g => some (.pointer (some ⟨g, 0, none⟩))
  | .func f => some (.func (.func f) #[] #[])
/-- the frame has n slots, and shows (at least) these -/
structure Fr (n : Nat) (a : Act) (l : FL) : Prop where
  defers : a.defers = []
  size : a.tmps.size = n
  slot : ∀ i v, look l i = some v → a.tmps[i]? = some v

section
variable {n : Nat} {a : Act} {l : FL}
theorem Fr.ev (f : Fr n a l) {x : Operand} {v : Value} (h : evl l x = some v) : a.eval x = v := by
  cases x with
  | tmp t => simp only [Act.eval, Array.getD_eq_getD_getElem?, f.slot t v h, Option.getD_some]
  | const c => simpa [evl, Act.eval] using h
  | global g => simpa [evl, Act.eval] using h
  | func g => simpa [evl, Act.eval] using h
theorem Fr.get (f : Fr n a l) {i : Nat} {v : Value} (h : look l i = some v) : a.tmps.getD i undef = v := by
  rw [Array.getD_eq_getD_getElem?, f.slot i v h, Option.getD_some]
theorem Fr.put (f : Fr n a l) (d : Nat) (v : Value) (hd : d < n) : Fr n (a.put (some d) v) ((d, v) :: l) := by
  refine ⟨f.defers, by simp [Act.put, f.size], fun i u h => ?_⟩
  unfold look at h
  simp only [Act.put, Array.getElem?_setIfInBounds]
  by_cases hi : d = i
  · subst hi
    simp at h
    subst h
    rw [if_pos rfl, if_pos (by rw [f.size]; exact hd)]
  · have hb : (d == i) = false := by simp [hi]
    simp [hb] at h
    rw [if_neg hi]
    exact f.slot i u h
theorem Fr.putNone (f : Fr n a l) (v : Value) : Fr n (a.put none v) l := f
def sub (l : FL) : FL → Prop
  | [] => True
  | p :: r => look l p.1 = some p.2 ∧ sub l r
theorem sub_look {l l' : FL} (h : sub l l') : ∀ i v, look l' i = some v → look l i = some v := by
  induction l' with
  | nil => intro i v h; simp [look] at h
  | cons p r ih =>
    obtain ⟨h1, h2⟩ := h
    intro i v hv
    unfold look at hv
    by_cases hi : p.1 = i
    · subst hi
      simp at hv
      rw [← hv]; exact h1
    · have hb : (p.1 == i) = false := by simp [hi]
      simp [hb] at hv
      exact ih h2 i v hv
theorem sub_nil {l : FL} : sub l [] := trivial
theorem sub_cons {l : FL} {i : Nat} {v : Value} {r : FL} (h : look l i = some v) (h' : sub l r) : sub l ((i, v) :: r) := ⟨h, h'⟩
theorem Fr.sub {l' : FL} (f : Fr n a l) (h : sub l l') : Fr n a l' := ⟨f.defers, f.size, fun i v hv => f.slot i v (sub_look h i v hv)⟩
/-- a slot's value by another name -/
theorem Fr.as (f : Fr n a l) {i : Nat} {v v' : Value} (h : look l i = some v) (e : v = v') : Fr n a ((i, v') :: l) := by
  subst e
  refine ⟨f.defers, f.size, fun j u hu => ?_⟩
  unfold look at hu
  by_cases hi : i = j
  · subst hi
    simp at hu
    subst hu
    exact f.slot i v h
  · have hb : (i == j) = false := by simp [hi]
    simp [hb] at hu
    exact f.slot j u hu
theorem Fr.start (args : Array Value) (n : Nat) (h : args.size ≤ n) : Fr n { tmps := args ++ Array.replicate (n - args.size) undef, defers := [] } (args.toList.zipIdx.map fun p => (p.2, p.1)) := by
  refine ⟨rfl, by simp; omega, fun i v hv => ?_⟩
  have key : ∀ (xs : List Value) (k i : Nat) (v : Value), look ((xs.zipIdx k).map fun p => (p.2, p.1)) i = some v → k ≤ i ∧ xs[i - k]? = some v := by
    intro xs
    induction xs with
    | nil => intro k i v h; simp [look] at h
    | cons x r ih =>
      intro k i v h
      simp only [List.zipIdx_cons, List.map_cons, look] at h
      by_cases hi : k = i
      · subst hi
        simp at h
        subst h
        simp
      · have hb : (k == i) = false := by simp [hi]
        simp [hb] at h
        obtain ⟨h1, h2⟩ := ih (k + 1) i v h
        refine ⟨by omega, ?_⟩
        rw [show i - k = (i - (k + 1)) + 1 from by omega]
        simpa using h2
  obtain ⟨_, h2⟩ := key args.toList 0 i v hv
  have hlt : i < args.size := by
    rcases Nat.lt_or_ge i args.size with h | h
    · exact h
    · simp [h] at h2
  simp only [Array.getElem?_append_left hlt]
  simpa using h2
end

/-! ### the steps of a plain region -/
section
variable {P : Program} {ops : Array Oper} {rest : List Oper} {o : Oper} {a : Act} {w w' : World} {Q : Exit → Act → World → Prop} {n d : Nat} {l : FL} {v : Value}
theorem wanted_none {ops : Array Oper} {a : Act} {dst : Option Nat} {op : Op} {ty : TypeId} {ps : String} {af : Array Edge} : Region.wanted ⟨dst, op, ty, ps, af, none⟩ (yielded ops a.tmps) = true := rfl
theorem Fr.yield (f : Fr n a l) {j dj : Nat} {b : Bool} (hj : (ops[j]?).bind (·.dst) = some dj) (hb : look l dj = some (.bool b)) : yielded ops a.tmps j = some b := by
  unfold yielded
  rw [hj]
  simp [f.slot dj _ hb]
theorem Fr.wanted (f : Fr n a l) {j dj : Nat} {b c : Bool} {dst : Option Nat} {op : Op} {ty : TypeId} {ps : String} {af : Array Edge} (hj : (ops[j]?).bind (·.dst) = some dj) (hb : look l dj = some (.bool c)) :
    Region.wanted ⟨dst, op, ty, ps, af, some (j, b)⟩ (yielded ops a.tmps) = (c == b) := by
  simp [Region.wanted, f.yield hj hb]
/-- an operation that yields a value -/
theorem L.val (f : Fr n a l) (hw : Region.wanted o (yielded ops a.tmps) = true) (hd : o.dst = some d) (hn : d < n) (h : (execOp a.eval o).run P w = .ok (.value v) w')
    (hK : ∀ a', Fr n a' ((d, v) :: l) → wpList P ops Q rest a' w') : wpList P ops Q (o :: rest) a w :=
  wpList_step fun K hK' => by
    rw [if_pos hw]
    unfold Oper.wp
    rw [h]
    show K (a.put o.dst v) w'
    rw [hd]
    exact hK' _ _ (hK _ (f.put d v hn))
/-- .. that does something -/
theorem L.act (f : Fr n a l) (hw : Region.wanted o (yielded ops a.tmps) = true) (hd : o.dst = none) (h : (execOp a.eval o).run P w = .ok .skip w')
    (hK : ∀ a', Fr n a' l → wpList P ops Q rest a' w') : wpList P ops Q (o :: rest) a w :=
  wpList_step fun K hK' => by
    rw [if_pos hw]
    unfold Oper.wp
    rw [h]
    show K (a.put o.dst undef) w'
    rw [hd]
    exact hK' _ _ (hK _ f)
/-- .. whose value nobody takes -/
theorem L.drop (f : Fr n a l) (hw : Region.wanted o (yielded ops a.tmps) = true) (hd : o.dst = none) (h : (execOp a.eval o).run P w = .ok (.value v) w')
    (hK : ∀ a', Fr n a' l → wpList P ops Q rest a' w') : wpList P ops Q (o :: rest) a w :=
  wpList_step fun K hK' => by
    rw [if_pos hw]
    unfold Oper.wp
    rw [h]
    show K (a.put o.dst v) w'
    rw [hd]
    exact hK' _ _ (hK _ f)
/-- .. that is not wanted -/
theorem L.skip (f : Fr n a l) (hw : Region.wanted o (yielded ops a.tmps) = false) (hd : o.dst = some d) (hn : d < n)
    (hK : ∀ a', Fr n a' ((d, undef) :: l) → wpList P ops Q rest a' w) : wpList P ops Q (o :: rest) a w :=
  wpList_step fun K hK' => by
    rw [if_neg (by rw [hw]; simp), hd]
    exact hK' _ _ (hK _ (f.put d undef hn))
theorem L.skipN (f : Fr n a l) (hw : Region.wanted o (yielded ops a.tmps) = false) (hd : o.dst = none)
    (hK : ∀ a', Fr n a' l → wpList P ops Q rest a' w) : wpList P ops Q (o :: rest) a w :=
  wpList_step fun K hK' => by
    rw [if_neg (by rw [hw]; simp), hd]
    exact hK' _ _ (hK _ f)
/-- a call of a Go function -/
theorem run_call {fn : Nat} {xs : Array Operand} {ats : Array TypeId} {dst : Option Nat} {ty : TypeId} {ps : String} {af : Array Edge} {g : Option (Nat × Bool)} {args : Array Value}
    (hc : ∀ args w, (callFunc fn args).run P w = .ok (.enter fn args) w) (hx : xs.map a.eval = args) :
    (execOp a.eval ⟨dst, .call { callee := .value (.func fn), args := xs, argTypes := ats }, ty, ps, af, g⟩).run P w = .ok (.enter fn args) w := by
  have e : execOp a.eval ⟨dst, .call { callee := .value (.func fn), args := xs, argTypes := ats }, ty, ps, af, g⟩ = callFunc fn (#[] ++ xs.map a.eval ++ #[]) := rfl
  rw [e, hx, hc]
  simp
theorem L.call (f : Fr n a l) (hw : Region.wanted o (yielded ops a.tmps) = true) (hd : o.dst = some d) (hn : d < n) {fn : Nat} {args : Array Value} (h : (execOp a.eval o).run P w = .ok (.enter fn args) w)
    {R : Ending → World → Prop} (hc : Calls P fn args w R) (hR : ∀ e w', R e w' → ∃ v, e = .returned v ∧ ∀ a', Fr n a' ((d, v) :: l) → wpList P ops Q rest a' w') : wpList P ops Q (o :: rest) a w :=
  wpList_step fun K hK' => by
    rw [if_pos hw]
    unfold Oper.wp
    rw [h]
    refine Calls.mono hc ?_
    intro e w' hr
    obtain ⟨v, rfl, hK⟩ := hR e w' hr
    show K (a.put o.dst v) w'
    rw [hd]
    exact hK' _ _ (hK _ (f.put d v hn))
theorem L.callN (f : Fr n a l) (hw : Region.wanted o (yielded ops a.tmps) = true) (hd : o.dst = none) {fn : Nat} {args : Array Value} (h : (execOp a.eval o).run P w = .ok (.enter fn args) w)
    {R : Ending → World → Prop} (hc : Calls P fn args w R) (hR : ∀ e w', R e w' → ∃ v, e = .returned v ∧ ∀ a', Fr n a' l → wpList P ops Q rest a' w') : wpList P ops Q (o :: rest) a w :=
  wpList_step fun K hK' => by
    rw [if_pos hw]
    unfold Oper.wp
    rw [h]
    refine Calls.mono hc ?_
    intro e w' hr
    obtain ⟨v, rfl, hK⟩ := hR e w' hr
    show K (a.put o.dst v) w'
    rw [hd]
    exact hK' _ _ (hK _ f)
/-- a slot that holds a Bool: both ways -/
theorem Fr.split {G : Prop} (f : Fr n a l) (i : Nat) {b : Bool} (h : look l i = some (.bool b)) (ht : b = true → Fr n a ((i, .bool true) :: l) → G) (hf : b = false → Fr n a ((i, .bool false) :: l) → G) : G := by
  cases hb : b
  · exact hf hb (f.as h (by rw [hb]))
  · exact ht hb (f.as h (by rw [hb]))
theorem Fr.splitD {G : Prop} (f : Fr n a l) (i : Nat) {p : Prop} {inst : Decidable p} (h : look l i = some (.bool (@decide p inst))) (ht : p → Fr n a ((i, .bool true) :: l) → G) (hf : ¬ p → Fr n a ((i, .bool false) :: l) → G) : G :=
  f.split i h (fun e => ht (of_decide_eq_true e)) (fun e => hf (of_decide_eq_false e))
theorem Fr.splitNB {G : Prop} (f : Fr n a l) (i : Nat) {b : Bool} (h : look l i = some (.bool (!b))) (ht : b = false → Fr n a ((i, .bool true) :: l) → G) (hf : b = true → Fr n a ((i, .bool false) :: l) → G) : G :=
  f.split i h (fun e => ht (by simpa using e)) (fun e => hf (by simpa using e))
theorem Fr.splitN {G : Prop} (f : Fr n a l) (i : Nat) {p : Prop} {inst : Decidable p} (h : look l i = some (.bool (!@decide p inst))) (ht : ¬ p → Fr n a ((i, .bool true) :: l) → G) (hf : p → Fr n a ((i, .bool false) :: l) → G) : G :=
  f.split i h (fun e => ht (by simpa using e)) (fun e => hf (by simpa using e))
end

/-! ### the steps of a region that draws -/
section
variable {P : Program} {ops : Array Oper} {Q : Exit → Act → World → Prop} {md : Region.Mode} {S : World → Prop} {a : Act} {w w' : World} {n d : Nat} {l : FL} {v : Value} {o : Oper}
theorem R.begin {id : Nat} (hm : P.follows .mixedOrders = true) (hS : S (w.drewN 1))
    (h : wpAnyH P .any ops Q S ops.size (Array.replicate ops.size false) a (w.drewN 1)) : (Code.region id ops true).wp P Q a w := wp_region_held hm h
/-- take an operation first that yields in every world that meets S -/
theorem R.take (i : Nat) {fuel : Nat} {listed : Array Bool} (f : Fr n a l) (hi : ops[i]? = some o) (hd : o.dst = some d) (hn : d < n) (hs : Region.noSelect ops = true) (hf : Region.free md ops listed i = true)
    (hr : (Region.ready md ops listed).contains i = true) (hQ : ∀ c (a : Act) (u : Value) w, Q (.panic c) (a.put (some d) u) w → Q (.panic c) a w) (hw : Region.wanted o (yielded ops a.tmps) = true) (hS : S w)
    (hv : ∀ w, S w → (execOp a.eval o).run P w = .ok (.value v) w)
    (hK : ∀ a', Fr n a' ((d, v) :: l) → wpAnyH P md ops Q S fuel (listed.setIfInBounds i true) a' w) : wpAnyH P md ops Q S (fuel + 1) listed a w := by
  refine wpAnyH_take hi hs hf hr (v := v) (fun c a w h => hQ c a v w (by rwa [hd] at h)) (.inl ⟨hw, hv⟩) hS ?_
  rw [hd]
  exact hK _ (f.put d v hn)
theorem R.takeSkip (i : Nat) {fuel : Nat} {listed : Array Bool} (f : Fr n a l) (hi : ops[i]? = some o) (hd : o.dst = some d) (hn : d < n) (hs : Region.noSelect ops = true) (hf : Region.free md ops listed i = true)
    (hr : (Region.ready md ops listed).contains i = true) (hQ : ∀ c (a : Act) (u : Value) w, Q (.panic c) (a.put (some d) u) w → Q (.panic c) a w) (hw : Region.wanted o (yielded ops a.tmps) = false) (hS : S w)
    (hK : ∀ a', Fr n a' ((d, undef) :: l) → wpAnyH P md ops Q S fuel (listed.setIfInBounds i true) a' w) : wpAnyH P md ops Q S (fuel + 1) listed a w := by
  refine wpAnyH_take hi hs hf hr (v := undef) (fun c a w h => hQ c a undef w (by rwa [hd] at h)) (.inr ⟨hw, rfl⟩) hS ?_
  rw [hd]
  exact hK _ (f.put d undef hn)
theorem R.takeSkipN (i : Nat) {fuel : Nat} {listed : Array Bool} (f : Fr n a l) (hi : ops[i]? = some o) (hd : o.dst = none) (hs : Region.noSelect ops = true) (hf : Region.free md ops listed i = true)
    (hr : (Region.ready md ops listed).contains i = true) (hw : Region.wanted o (yielded ops a.tmps) = false) (hS : S w)
    (hK : wpAnyH P md ops Q S fuel (listed.setIfInBounds i true) a w) : wpAnyH P md ops Q S (fuel + 1) listed a w := by
  refine wpAnyH_take hi hs hf hr (v := undef) (fun c a w h => by rw [hd] at h; exact h) (.inr ⟨hw, rfl⟩) hS ?_
  rw [hd]
  exact hK
/-- the one operation that may come up: it yields -/
theorem R.val (i : Nat) {fuel : Nat} {listed : Array Bool} (f : Fr n a l) (hi : ops[i]? = some o) (hd : o.dst = some d) (hn : d < n) (hr : Region.ready md ops listed = [i]) (hw : Region.wanted o (yielded ops a.tmps) = true)
    (hv : (execOp a.eval o).run P w = .ok (.value v) w') (hS : S w') (hK : ∀ a', Fr n a' ((d, v) :: l) → wpAnyH P md ops Q S fuel (listed.setIfInBounds i true) a' w') : wpAnyH P md ops Q S (fuel + 1) listed a w := by
  refine wpAnyH_all hr (by simp) ?_
  intro j hj
  simp only [List.mem_singleton] at hj
  subst hj
  unfold wpOp
  simp only [hi, hw, if_true]
  refine .inl ?_
  unfold Oper.wp
  rw [hv]
  show S w' ∧ wpAnyH P md ops Q S fuel (listed.setIfInBounds j true) (a.put o.dst v) w'
  rw [hd]
  exact ⟨hS, hK _ (f.put d v hn)⟩
theorem R.act (i : Nat) {fuel : Nat} {listed : Array Bool} (f : Fr n a l) (hi : ops[i]? = some o) (hd : o.dst = none) (hr : Region.ready md ops listed = [i]) (hw : Region.wanted o (yielded ops a.tmps) = true)
    (hv : (execOp a.eval o).run P w = .ok .skip w') (hS : S w') (hK : ∀ a', Fr n a' l → wpAnyH P md ops Q S fuel (listed.setIfInBounds i true) a' w') : wpAnyH P md ops Q S (fuel + 1) listed a w := by
  refine wpAnyH_all hr (by simp) ?_
  intro j hj
  simp only [List.mem_singleton] at hj
  subst hj
  unfold wpOp
  simp only [hi, hw, if_true]
  refine .inl ?_
  unfold Oper.wp
  rw [hv]
  show S w' ∧ wpAnyH P md ops Q S fuel (listed.setIfInBounds j true) (a.put o.dst undef) w'
  rw [hd]
  exact ⟨hS, hK _ f⟩
theorem R.call (i : Nat) {fuel : Nat} {listed : Array Bool} (f : Fr n a l) (hi : ops[i]? = some o) (hd : o.dst = some d) (hn : d < n) (hr : Region.ready md ops listed = [i]) (hw : Region.wanted o (yielded ops a.tmps) = true)
    {fn : Nat} {args : Array Value} (h : (execOp a.eval o).run P w = .ok (.enter fn args) w) {R : Ending → World → Prop} (hc : Calls P fn args w R)
    (hR : ∀ e w', R e w' → ∃ v, e = .returned v ∧ S w' ∧ ∀ a', Fr n a' ((d, v) :: l) → wpAnyH P md ops Q S fuel (listed.setIfInBounds i true) a' w') : wpAnyH P md ops Q S (fuel + 1) listed a w := by
  refine wpAnyH_all hr (by simp) ?_
  intro j hj
  simp only [List.mem_singleton] at hj
  subst hj
  unfold wpOp
  simp only [hi, hw, if_true]
  refine .inl ?_
  unfold Oper.wp
  rw [h]
  refine Calls.mono hc ?_
  intro e w' hr
  obtain ⟨v, rfl, hS, hK⟩ := hR e w' hr
  show S w' ∧ wpAnyH P md ops Q S fuel (listed.setIfInBounds j true) (a.put o.dst v) w'
  rw [hd]
  exact ⟨hS, hK _ (f.put d v hn)⟩
theorem R.done {fuel : Nat} {listed : Array Bool} (hr : Region.ready md ops listed = []) (h : Q .normal a w) : wpAnyH P md ops Q S fuel listed a w := wpAnyH_done hr h fuel
end

/-! ### code -/
section
variable {P : Program} {Q : Exit → Act → World → Prop} {a : Act} {w : World} {n : Nat} {l : FL}
theorem C.region {id : Nat} {ops : List Oper} (h : wpList P ops.toArray Q ops a w) : (Code.region id ops.toArray false).wp P Q a w := wp_region_lit h
theorem C.condT (f : Fr n a l) {c : Operand} {x y : Code} (hc : evl l c = some (.bool true)) (h : x.wp P Q a w) : (Code.cond c x y).wp P Q a w := wp_cond_true (f.ev hc) h
theorem C.condF (f : Fr n a l) {c : Operand} {x y : Code} (hc : evl l c = some (.bool false)) (h : y.wp P Q a w) : (Code.cond c x y).wp P Q a w := wp_cond_false (f.ev hc) h
/-- x, then what J says -/
theorem C.cut {x y : Code} (J : Act → World → Prop) (h : x.wp P (Exit.then J Q) a w) (hr : ∀ a w, J a w → y.wp P Q a w) : (Code.seq x y).wp P Q a w :=
  wp_seq (Code.wp_mono (fun e a w q => by cases e <;> first | exact hr _ _ q | exact q) h)
theorem C.loop (I : Nat → Act → World → Prop) (n₀ : Nat) {c : Code} (h₀ : I n₀ a w)
    (round : ∀ n a w, I n a w → ∀ K : Act → World → Prop, (∀ a w k, k < n → I k a w → K a w) → c.wp P (Exit.then K Q) a w) : (Code.loop c).wp P Q a w :=
  wp_loop_ghost I n₀ h₀ fun n a w h => round n a w h _ fun a w k hk hI => ⟨k, hk, hI⟩
theorem C.enter {f : Nat} {fn : Func} {c : Code} {args : Array Value} {R : Ending → World → Prop} {n : Nat} (hf : P.funcs[f]? = some fn) (hb : fn.body = some c) (hn : fn.ntmps = n) (hs : Nat.ble args.size n = true)
    (h : ∀ a, Fr n a (args.toList.zipIdx.map fun p => (p.2, p.1)) → c.wp P (bodyPost P fn R) a w) : Calls P f args w R := by
  refine calls_of_wp hf hb (h _ ?_)
  rw [hn]
  exact Fr.start args n (Nat.le_of_ble_eq_true hs)
theorem C.ret {fn : Func} {R : Ending → World → Prop} (f : Fr n a l) {t : Tmp} (hr : fn.results = #[.tmp t]) {v : Value} (hv : look l t = some v) (h : R (.returned v) w) : bodyPost P fn R .ret a w :=
  bodyPost_ret (by rw [results_tmp hr, f.get hv]) f.defers h
theorem C.ret0 {fn : Func} {R : Ending → World → Prop} (f : Fr n a l) (hr : fn.results = #[]) (h : R (.returned (.tuple #[])) w) : bodyPost P fn R .ret a w :=
  bodyPost_ret (by rw [results_none hr]) f.defers h
theorem C.end0 {fn : Func} {R : Ending → World → Prop} (f : Fr n a l) (hr : fn.results = #[]) (h : R (.returned (.tuple #[])) w) : bodyPost P fn R .normal a w :=
  bodyPost_end (by rw [results_none hr]) f.defers h
theorem C.ret2 {fn : Func} {R : Ending → World → Prop} (f : Fr n a l) {t u : Tmp} (hr : fn.results = #[.tmp t, .tmp u]) {v v' : Value} (hv : look l t = some v) (hv' : look l u = some v') (h : R (.returned (.tuple #[v, v'])) w) : bodyPost P fn R .ret a w :=
  bodyPost_ret (by rw [results_tmp2 hr, f.get hv, f.get hv']) f.defers h
end
end Go.Hub
