/- Frames by the types of blocks: 'Mod T M B w w'' says that of the blocks from B on those of a type in T, and the maps in M, may have changed, no others. -/
import Derived.Test.YtpdacegpjofdeaaDoorRc
set_option linter.all false
namespace Go.Hub
open Go.RowKit

def MapB (w : World) (k : Nat) : Prop := ∃ es c, w.heap[k]? = some (.map es c)
structure Mod (T : List TypeId) (M : List Nat) (B : Nat) (w w' : World) : Prop where
  os : w'.os = w.os
  tape : w'.tape = w.tape
  output : w'.output = w.output
  size : w.heap.size ≤ w'.heap.size
  block : ∀ k, k < w.heap.size → (k < B ∨ (¬ Typ w k T ∧ ¬ (MapB w k ∧ k ∈ M))) → w'.heap[k]? = w.heap[k]?
section
variable {T T' : List TypeId} {M M' : List Nat} {B B' : Nat} {w w' w'' w0 : World} {L : List Nat} {g : Nat} {t : TypeId} {cs : Array Value}
theorem MapB.lt {k : Nat} (h : MapB w k) : k < w.heap.size := by obtain ⟨es, c, h⟩ := h; exact (Array.getElem?_eq_some_iff.1 h).1
theorem MapB.of_eq {k : Nat} (h : MapB w k) (hk : w'.heap[k]? = w.heap[k]?) : MapB w' k := by obtain ⟨es, c, h⟩ := h; exact ⟨es, c, hk.trans h⟩
theorem Typ.not_map {k : Nat} (h : Typ w k T) : ¬ MapB w k := by
  obtain ⟨cs, e, f, h, _⟩ := h
  rintro ⟨es, c, h'⟩
  rw [h] at h'
  cases h'
theorem Typ.mono {k : Nat} (h : Typ w k T) (hs : ∀ t ∈ T, t ∈ T') : Typ w k T' := by obtain ⟨cs, e, f, h, he⟩ := h; exact ⟨cs, e, f, h, hs e he⟩
theorem Blk.typ (h : Blk w g t cs) (ht : t ∈ T) : Typ w g T := ⟨cs, t, _, h, ht⟩
theorem Blk.not_map (h : Blk w g t cs) : ¬ MapB w g := (h.typ (T := [t]) (by simp)).not_map
theorem IsSet.map {P : Program} {k e : TypeId} {m : Nat} {S : List Int} (h : IsSet P k e w m S) : MapB w m := by
  obtain ⟨hn, D, ⟨es, clock, h1, h2⟩, r⟩ := h
  exact ⟨es, clock, h1⟩
theorem Mod.refl (T : List TypeId) (M : List Nat) (B : Nat) (w : World) : Mod T M B w w := ⟨rfl, rfl, rfl, Nat.le_refl _, fun _ _ _ => rfl⟩
theorem Mod.mono (h : Mod T M B w w') (hT : ∀ t ∈ T, t ∈ T') (hM : ∀ m ∈ M, m ∈ M') (hB : B' ≤ B) : Mod T' M' B' w w' :=
  ⟨h.os, h.tape, h.output, h.size, fun k hk hc => h.block k hk (by
    rcases hc with hc | ⟨h1, h2⟩
    · exact .inl (by omega)
    · exact .inr ⟨fun ht => h1 (ht.mono hT), fun hm => h2 ⟨hm.1, hM _ hm.2⟩⟩)⟩
theorem Mod.trans (h : Mod T M B w w') (k : Mod T M B w' w'') : Mod T M B w w'' :=
  ⟨k.os.trans h.os, k.tape.trans h.tape, k.output.trans h.output, Nat.le_trans h.size k.size, fun i hi hc => by
    have e1 := h.block i hi hc
    refine (k.block i (Nat.lt_of_lt_of_le hi h.size) ?_).trans e1
    rcases hc with hc | ⟨h1, h2⟩
    · exact .inl hc
    · exact .inr ⟨fun ht => h1 (ht.of_eq e1.symm), fun hm => h2 ⟨hm.1.of_eq e1.symm, hm.2⟩⟩⟩
theorem Mod.step (h : Mod T M B w w') (k : Mod T' M' B' w' w'') (hT : ∀ t ∈ T', t ∈ T) (hM : ∀ m ∈ M', m ∈ M) (hB : B ≤ B') : Mod T M B w w'' := h.trans (k.mono hT hM hB)
theorem Mod.drewN (h : Mod T M B w w') (n : Nat) : Mod T M B w (w'.drewN n) := ⟨h.os, h.tape, h.output, h.size, h.block⟩
theorem Mod.of_kept0 (hk : Kept [] w w') : Mod T M B w w' := ⟨hk.os, hk.tape, hk.output, hk.size, fun k h _ => hk.block k h (by simp)⟩
theorem Mod.of_kept (hk : Kept L w w') (hL : ∀ x ∈ L, x < w.heap.size → B ≤ x ∧ (Typ w x T ∨ (MapB w x ∧ x ∈ M))) : Mod T M B w w' :=
  ⟨hk.os, hk.tape, hk.output, hk.size, fun k h hc => hk.block k h fun hx => by
    obtain ⟨h1, h2⟩ := hL k hx h
    rcases hc with hc | ⟨h3, h4⟩
    · omega
    · exact h2.elim h3 h4⟩
theorem Mod.of_blk (hk : Kept [g] w w') (h : Blk w g t cs) (hB : B ≤ g) (ht : t ∈ T) : Mod T M B w w' := .of_kept hk fun x hx _ => by
  obtain rfl := List.mem_singleton.1 hx
  exact ⟨hB, .inl (h.typ ht)⟩
theorem Mod.of_blk1 (hk : Kept [g] w w') (h : Blk w g t cs) (hB : B ≤ g) : Mod [t] M B w w' := .of_blk hk h hB (by simp)
/-- blocks that w0 had not: no change of w0's -/
theorem Mod.kept_new (h : Mod T M B w0 w) (hk : Kept L w w') (hL : ∀ x ∈ L, w0.heap.size ≤ x) : Mod T M B w0 w' :=
  ⟨hk.os.trans h.os, hk.tape.trans h.tape, hk.output.trans h.output, Nat.le_trans h.size hk.size, fun k h' hc =>
    (hk.block k (Nat.lt_of_lt_of_le h' h.size) fun hx => by have := hL k hx; omega).trans (h.block k h' hc)⟩
theorem Mod.new (h : Mod T M B w0 w) {T' : List TypeId} {M' : List Nat} (k : Mod T' M' w0.heap.size w w') : Mod T M B w0 w' :=
  ⟨k.os.trans h.os, k.tape.trans h.tape, k.output.trans h.output, Nat.le_trans h.size k.size, fun i hi hc =>
    (k.block i (Nat.lt_of_lt_of_le hi h.size) (.inl hi)).trans (h.block i hi hc)⟩
theorem Mod.below (h : Mod T M B w w') : Below B w w' → True := fun _ => trivial
theorem Mod.toBelow (h : Mod T M w.heap.size w w') : Below w.heap.size w w' := ⟨h.os, h.tape, h.output, h.size, fun k hk => h.block k hk (.inl hk)⟩
theorem Mod.toKept (h : Mod [] [] B w w') : Kept [] w w' := ⟨h.os, h.tape, h.output, h.size, fun k hk _ => h.block k hk (.inr ⟨by rintro ⟨_, _, _, _, he⟩; simp at he, by simp⟩)⟩
theorem Blk.mod (h : Blk w g t cs) (hm : Mod T M B w w') (ht : t ∉ T) : Blk w' g t cs := (hm.block g h.lt (.inr ⟨h.not_typ ht, fun hx => h.not_map hx.1⟩)).trans h
theorem Blk.modlow (h : Blk w g t cs) (hm : Mod T M B w w') (hg : g < B) : Blk w' g t cs := (hm.block g h.lt (.inl hg)).trans h
theorem IsSet.mod {P : Program} {k e : TypeId} {m : Nat} {S : List Int} (h : IsSet P k e w m S) (hm : Mod T M B w w') (hM : m ∉ M) : IsSet P k e w' m S :=
  h.of_block (hm.block m h.lt (.inr ⟨fun ht => ht.not_map h.map, fun hx => hM hx.2⟩))
theorem IdB (h : Typ w g [t]) (ht : t ∉ T) : ¬ Typ w g T := by
  obtain ⟨cs, e, f, h, he⟩ := h
  obtain rfl := List.mem_singleton.1 he
  exact not_typ_of h ht
theorem Own.mod {e : TypeId} {size n : Nat} {v : Value} {xs : List Value} (h : Own w e size v n xs) (hm : Mod T M B w w') (he : e ∉ T) : Own w' e size v n xs := h.of_eq fun k hk => by
  obtain ⟨h1, cs, h2⟩ := h.blk k hk
  exact hm.block k h1 (.inr ⟨not_typ_of h2 he, fun hx => (Typ.not_map (T := [e]) ⟨cs, e, _, h2, by simp⟩) hx.1⟩)
theorem Own.modlow {e : TypeId} {size n : Nat} {v : Value} {xs : List Value} (h : Own w e size v n xs) (hm : Mod T M B w w') (hb : ∀ k, v.ownBlock = some k → k < B) : Own w' e size v n xs := h.of_eq fun k hk => by
  obtain ⟨h1, cs, h2⟩ := h.blk k hk
  exact hm.block k h1 (.inl (hb k hk))
theorem Fresh.mod {e : TypeId} {size n c : Nat} {A : Option Addr} {xs : List Value} (h : Fresh w0 w e size A n c xs) (hm : Mod T M B w w') (he : e ∉ T) : Fresh w0 w' e size A n c xs := ⟨h.own.mod hm he, h.lo⟩
theorem Sl.modlow {A : Option Addr} {n size : Nat} {xs : List Value} (h : Sl w A n size xs) (hm : Mod T M B w w') (hb : ∀ a, A = some a → a.block < B) : Sl w' A n size xs :=
  ⟨h.1, fun hn => by
    obtain ⟨b, off, e, hl, hc⟩ := h.2 hn
    refine ⟨b, off, e, Nat.lt_of_lt_of_le hl hm.size, fun j u hu => ?_⟩
    rw [World.cell?_of_block (w := w) (a := ⟨b, off + j, none⟩) (hm.block b hl (.inl (hb _ e)))]
    exact hc j u hu⟩
theorem Bs.mod {E : List TypeId} {A : Option Addr} {n : Nat} {l : List UInt8} (h : Bs E B w A n l) (hm : Mod T M B w w') (hE : ∀ t ∈ E, t ∉ T) : Bs E B w' A n l :=
  ⟨h.1, fun hn => by
    obtain ⟨b, off, e, hb, ht, hc⟩ := h.2 hn
    have e1 := hm.block b hb (ht.imp_right fun ht => ⟨fun h' => by
      obtain ⟨cs, t, f, h1, h2⟩ := ht
      obtain ⟨cs', t', f', h1', h2'⟩ := h'
      rw [h1] at h1'
      injection h1' with h1'
      injection h1' with _ h3 _
      subst h3
      exact hE _ h2 h2', fun h' => ht.not_map h'.1⟩)
    exact ⟨b, off, e, Nat.lt_of_lt_of_le hb hm.size, ht.imp_right fun ht => ht.of_eq e1, fun j x hx => (World.cell?_of_block (w := w) (a := ⟨b, off + j, none⟩) e1).trans (hc j x hx)⟩⟩
theorem Bs.sl {E : List TypeId} {A : Option Addr} {n : Nat} {l : List UInt8} (h : Bs E B w A n l) : Sl w A n 1 (l.map u8) := Sl.of_rds h.rds
theorem Bs.of_fresh {A : Option Addr} {n c : Nat} {l : List UInt8} {e : TypeId} (h : Fresh w0 w e 1 A n c (l.map u8)) : Bs [e] B w A n l := Bs.of_own h.own (by simp)
theorem own_typ {e : TypeId} {size n c k : Nat} {A : Option Addr} {xs : List Value} (h : Own w e size (.slice A n c) k xs) {b : Nat} (hb : A.map (·.block) = some b) (he : e ∈ T) : Typ w b T := by
  obtain ⟨_, cs, h2⟩ := h.blk b ((own_block A n c b).2 hb)
  exact ⟨cs, e, _, h2, he⟩
/-- an append to a slice that lies from B on -/
theorem Mod.of_app {e : TypeId} {size k c m c' : Nat} {A A' : Option Addr} {xs news : List Value} (h : App w w' e size A k c xs news m A' c') (ho : Own w e size (.slice A k c) k xs) (hB : ∀ a, A = some a → B ≤ a.block) (he : e ∈ T) : Mod T M B w w' := .of_kept h.kept fun x hx _ => by
  have hb := (own_block A k c x).1 (by simpa using hx)
  refine ⟨?_, .inl (own_typ ho hb he)⟩
  cases A with
  | none => simp at hb
  | some a => simp at hb; subst hb; exact hB a rfl
theorem App.from {e : TypeId} {size k c m c' : Nat} {A A' : Option Addr} {xs news : List Value} (h : App w w' e size A k c xs news m A' c') (hB : ∀ a, A = some a → B ≤ a.block) (hw : B ≤ w.heap.size) : ∀ a, A' = some a → B ≤ a.block := fun a ha => by
  rcases h.where_ a.block (by rw [ha]; rfl) with hb | hb
  · cases A with
    | none => simp at hb
    | some a' => simp at hb; rw [← hb]; exact hB a' rfl
  · omega
/-- an append to a slice of the call's own -/
theorem Mod.app_new {e : TypeId} {size k c m c' : Nat} {A A' : Option Addr} {xs news : List Value} (hm : Mod T M B w0 w) (h : App w w' e size A k c xs news m A' c') (hf : Fresh w0 w e size A k c xs) : Mod T M B w0 w' := hm.kept_new h.kept fun x hx =>
  hf.lo x ((own_block A k c x).1 (by simpa using hx))
theorem Fresh.from {e : TypeId} {size n c : Nat} {A : Option Addr} {xs : List Value} (h : Fresh w0 w e size A n c xs) : ∀ a, A = some a → w0.heap.size ≤ a.block := fun a ha => h.lo a.block (by rw [ha]; rfl)
end
end Go.Hub
