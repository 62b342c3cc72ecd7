/- Merged by program (shrink.py): contracts and plain laws that the claim's statement uses, part 1. -/
import Derived.ArgAppend
import Derived.BigQuiet
import Derived.Deep.AppendLies
import Derived.Deep.Draws
import Derived.Deep.Fields
import Derived.Deep.LoopGhost
import Derived.Deep.MidRow
import Derived.Deep.QuietTactic
import Derived.Deep.RegionHeld
import Derived.Deep.RegionHeld3
import Derived.Deep.RegionLaw
import Derived.Deep.Slices
import Derived.Deep.Upon
import Derived.DeepKeys4
import Derived.Great.BuildSlice
import Derived.IntWalk
import Derived.Laws.BytesArg
import Derived.Laws.Cover4
import Derived.Laws.IdiomCopy
import Derived.Laws.IdiomStrings
import Derived.Laws.RangeAny
import Derived.Laws.ResultCell
import Derived.Lib.AppendStr
import Derived.Lib.AppendZerosOnto
import Derived.Lib.MapLaws
import Derived.Lib.OthersKept
import Derived.Lib.Overlaps
import Derived.Maps.AppendAt
import Derived.Maps.OwnSet
import Derived.Maps.Range
import Derived.OpenShut
import Derived.OwnWalk
import Derived.ProofKit
import Derived.Shelf.Strings.Split
import Derived.SizedLaws
import Derived.StillTailTactics
import Derived.Test.YtkdeedhjkjffpaaGreatProg
import Derived.Test.YtkdeedhjkjffpaaGreatRows
import Derived.WalkKit
import Derived.WalkLawsBesides
import Derived.WalkSpells
import Derived.WideKeyEntry
set_option linter.all false
set_option maxRecDepth 100000
set_option maxHeartbeats 8000000

namespace Go.Vl
end Go.Vl
namespace Go.Hub
open Go.RowKit Go.Maps Go.ChangeMaps Go.MapKept
theorem Fj {p : Prop} (h : p) : Hid p:=h
structure Kept (L : List Nat) (w w' : World) : Prop where
  os : w'.os = w.os
  tape : w'.tape = w.tape
  output : w'.output = w.output
  size : w.heap.size ≤ w'.heap.size
  block : ∀ k,k < w.heap.size → k ∉ L → w'.heap[k]? = w.heap[k]?
section
variable {L L' : List Nat} {w w' w'' : World}
theorem Kept.refl (L : List Nat) (w : World) : Kept L w w:=⟨rfl,rfl,rfl,Nat.le_refl _,fun _ _ _=>rfl⟩
theorem Kept.trans (h : Kept L w w') (k : Kept L' w' w'') (c : ∀ x ∈ L',x < w.heap.size → x ∈ L) : Kept L w w'':=
  ⟨k.os.trans h.os, k.tape.trans h.tape, k.output.trans h.output, Nat.le_trans h.size k.size,
   fun i a b=>(k.block i (Nat.lt_of_lt_of_le a h.size) (fun d=>b (c i d a))).trans (h.block i a b)⟩
theorem Kept.mono (h : Kept L w w') (c : ∀ x ∈ L,x < w.heap.size → x ∈ L') : Kept L' w w':=
  ⟨h.os,h.tape,h.output,h.size,fun i a b=>h.block i a (fun d=>b (c i d a))⟩
theorem Kept.drewN (h : Kept L w w') (n : Nat) : Kept L w (w'.drewN n):=⟨h.os,h.tape,h.output,h.size,h.block⟩
theorem Kept.of_drew (h : Kept L w.drew w') : Kept L w w':=⟨h.os,h.tape,h.output,h.size,h.block⟩
theorem Kept.alloc (h : Kept L w w') (o : Obj) : Kept L w (w'.alloc o):=
  h.trans (L':=[]) ⟨rfl,rfl,rfl,by simp,fun k a _=>Below.heap_alloc _ _ _ a⟩ (by simp)
theorem Kept.setCell (h : Kept L w w') {p : Addr} (b : p.block < w.heap.size → p.block ∈ L) (u : Value) : Kept L w (w'.setCell p u):=
  h.trans (L':=[p.block]) ⟨rfl,rfl,rfl,by simp [World.setCell],fun k _ a=>Below.heap_setCell _ _ _ _ (by simpa using a)⟩ (by simpa using b)
theorem Kept.below (h : Kept L w w') {B : Nat} (a : ∀ x ∈ L,B ≤ x) (d : B ≤ w.heap.size) : Below B w w':=
  ⟨h.os,h.tape,h.output,h.size,fun k c=>h.block k (by omega) (fun b=>by have:=a k b; omega)⟩
theorem Kept.of_below (h : Below w.heap.size w w') (L : List Nat) : Kept L w w':=⟨h.os,h.tape,h.output,h.size,fun k a _=>h.block k a⟩
theorem Kept.cell (h : Kept L w w') {p : Addr} (b : p.block < w.heap.size) (a : p.block ∉ L) : w'.cell? p = w.cell? p:=World.cell?_of_block (w:=w) (h.block p.block b a)
end
def Blk (w : World) (g : Nat) (t : TypeId) (cs : Array Value) : Prop:=w.heap[g]? = some (.cells cs t (0,0))
section
variable {w w' : World} {g : Nat} {t : TypeId} {cs : Array Value}
theorem Blk.lt (h : Blk w g t cs) : g < w.heap.size:=by
  rcases Nat.lt_or_ge g w.heap.size with b | a
  · exact b
  · unfold Blk at h; rw [Array.getElem?_eq_none a] at h; cases h
theorem Blk.cell (h : Blk w g t cs) (i : Nat) : w.cell? ⟨g,i,none⟩ = cs[i]?:=cell_of_row w g i cs t (0,0) h
theorem Blk.cell_ (h : Blk w g t cs) {i : Nat} {v : Value} (a : cs[i]? = some v) : w.cell? ⟨g,i,none⟩ = some v:=(h.cell i).trans a
theorem Blk.frozen (h : Blk w g t cs) (i : Nat) : w.frozen? ⟨g,i,none⟩ = false:=by
  unfold Blk at h;simp [World.frozen?,h]
theorem Blk.new (w : World) (t : TypeId) (cs : Array Value) : Blk (w.alloc (.cells cs t)) w.heap.size t cs:=heap_alloc_new w _
theorem Blk.set_ (h : Blk w g t cs) (i : Nat) (u : Value) : Blk (w.setCell ⟨g,i,none⟩ u) g t (cs.setIfInBounds i u):=by
  unfold Blk at h ⊢;simp [World.setCell,Array.getElem?_modify,h]
theorem Blk.kept {L : List Nat} (h : Blk w g t cs) (b : Kept L w w') (a : g ∉ L) : Blk w' g t cs:=(b.block g h.lt a).trans h
end
section
variable {H : Type} {P : Program} {e : TypeId}
theorem Jm (a : P.underlying e = some .bool) {v : Value} {z : DataW H × List MemPlace} (h : plainElem P e v = some z) : ∃ x,v = .bool x ∧ z = (.lit (.bool x),[]):=by
  unfold plainElem at h;rw [a] at h
  cases v <;> simp at h
  exact ⟨_,rfl,h.symm⟩
end
def IsSet (P : Program) (k e : TypeId) (w : World) (m : Nat) (S : List Int) : Prop:=
  S.Nodup ∧ ∃ (D : DataW Unit), w.ownsMap P k (plainElem P e) m S.length D ∧ Maps.size D = S.length ∧
    (∀ x : Int,Maps.has D (.int .i64 x) = decide (x ∈ S)) ∧ ∀ x : Int,D.atKey (.int .i64 x) (.lit (.bool false)) = .lit (.bool (decide (x ∈ S)))
section
variable {P : Program} {k e t : TypeId} {w w' : World} {m : Nat} {S : List Int}
theorem F2 {H : Type} {R : Value → Option (DataW H × List MemPlace)} {b n c : Nat} {D : DataW H} (h : w.ownsMap P k R b n D) (g : Maps.size D ≤ c) : w.ownsMap P k R b c D:=by
  obtain ⟨d,a,f,F,i,rfl⟩:=h;refine ⟨d,a,f,F,?_,rfl⟩
  simpa [Maps.size,length_sorted] using g
theorem IsSet.lt (h : IsSet P k e w m S) : m < w.heap.size:=by obtain ⟨_,D,a,_⟩:=h; exact a.lt
theorem IsSet.made (w : World) (P : Program) (k e : TypeId) : IsSet P k e (w.alloc (.map #[] 0)) w.heap.size []:=
  ⟨List.nodup_nil,.map [],World.ownsMap_made w P k _,rfl,fun x=>by simp [Maps.has],fun x=>by simp [DataW.atKey]⟩
theorem IsSet.of_block (h : IsSet P k e w m S) (f : w'.heap[m]? = w.heap[m]?) : IsSet P k e w' m S:=by
  obtain ⟨g,D,⟨b,a,c,d⟩,r⟩:=h;exact ⟨g,D,⟨b,a,f.trans c,d⟩,r⟩
theorem IsSet.kept {L : List Nat} (h : IsSet P k e w m S) (a : Kept L w w') (b : m ∉ L) : IsSet P k e w' m S:=h.of_block (a.block m h.lt b)
theorem IsSet.look (h : IsSet P k e w m S) (f : P.underlying k = some (.int .i64)) (d : P.underlying e = some .bool) (i : P.underlying t = some (.map k e)) (n : (zeroValue e).run P w = .ok (.bool false) w)
    {x : Int} (l : (Lit.int .i64 x).wf = true) : (Instr.lookup t (.map (some m)) (.int .i64 x) false).run P w = .ok (.bool (decide (x ∈ S))) w:=by
  obtain ⟨_,D,g,_,_,b⟩:=h;obtain ⟨v,o,a,j⟩:=g.lookup (int_keyed f) i n (plainElem_bool d false) (keyOf_int_mk f l);obtain ⟨y,rfl,c⟩:=Jm d j;rw [b x] at c;simp only [Prod.mk.injEq,DataW.lit.injEq,Lit.bool.injEq] at c;rw [a,c.1]
theorem IsSet.len (h : IsSet P k e w m S) (c : P.underlying t = some (.map k e)) (ty : TypeId) : (Builtin.len_ #[t] ty #[.map (some m)]).run P w = .ok (.int .i64 S.length) w:=by
  obtain ⟨_,D,a,b,_⟩:=h;rw [a.len c ty,b]
theorem Dm {b : Nat} (h : w.mapTurned w' b) : Kept [b] w w':=by
  obtain ⟨j,c,d,a,f,rfl⟩:=h;exact ⟨rfl,rfl,rfl,by simp [setBlock],fun i _ g=>heap_setBlock_other f _ (by simpa using g)⟩
theorem Fe {a b : Int} : (Lit.int .i64 a ≠ Lit.int .i64 b) ↔ a ≠ b:=by simp
theorem IsSet.store (h : IsSet P k e w m S) (o : P.underlying k = some (.int .i64)) (r : P.underlying e = some .bool) (u : P.underlying t = some (.map k e))
    {x : Int} (v : (Lit.int .i64 x).wf = true) (q : S.length < maxLen) (p : x ∉ S) :
    ∃ w',(Instr.mapUpdate t (.map (some m)) (.int .i64 x) (.bool true)).run P w = .ok () w' ∧ IsSet P k e w' m (x :: S) ∧ Kept [m] w w':=by
  obtain ⟨j,D,g,s,b,i⟩:=h;have a:=keyOf_int_mk o v;have K:=int_keyed o;obtain ⟨w',d,l,n⟩:=g.store K u q a (plainElem_bool r true);have f:=g.tidy K;refine ⟨w',d,⟨List.nodup_cons.2 ⟨p,j⟩,_,l,?_,?_,?_⟩,Dm n⟩
  · rw [Maps.size_put f, b x]
    simp [p,s]
  · intro y
    by_cases c : y = x
    · subst c
      rw [Maps.has_put_same g.isMap (K.key a)]
      simp
    · rw [Maps.has_put_other (Fe.2 c), b y]
      simp [c]
  · intro y
    by_cases c : y = x
    · subst c
      rw [Maps.atKey_put_same g.isMap (K.key a)]
      simp
    · rw [Maps.atKey_put_other (Fe.2 c), i y]
      simp [c]
theorem IsSet.drop (h : IsSet P k e w m S) (p : P.underlying k = some (.int .i64)) (s : P.underlying t = some (.map k e))
    {x : Int} (u : (Lit.int .i64 x).wf = true) (ty : TypeId) :
    ∃ w',(Builtin.delete_ #[t,k] ty #[.map (some m),.int .i64 x]).run P w = .ok (.tuple #[]) w' ∧ IsSet P k e w' m (S.erase x) ∧ Kept [m] w w':=by
  obtain ⟨a,D,q,r,b,l⟩:=h;have d:=keyOf_int_mk p u;have K:=int_keyed p;obtain ⟨w',f,n,o⟩:=q.drop K s d ty;have i:=q.tidy K
  have g : Maps.size (D.del (.int .i64 x)) = (S.erase x).length:=by
    have:=Maps.size_del (k:=.int .i64 x) i;rw [b x,r] at this
    by_cases j : x ∈ S
    · simp [j] at this
      rw [List.length_erase_of_mem j];omega
    · simp [j] at this
      rw [List.erase_of_not_mem j];exact this
  refine ⟨w',f,⟨a.erase x,_,F2 n (by rw [g]; exact Nat.le_refl _),g,?_,?_⟩,Dm o⟩
  · intro y
    by_cases c : y = x
    · subst c
      rw [Maps.has_del_same];simp [a.mem_erase_iff]
    · rw [Maps.has_del_other (Fe.2 c), b y]
      simp [a.mem_erase_iff,c]
  · intro y
    by_cases c : y = x
    · subst c
      rw [Maps.atKey_del_same];simp [a.mem_erase_iff]
    · rw [Maps.atKey_del_other (Fe.2 c), l y]
      simp [a.mem_erase_iff,c]
end
theorem B9 (b a i : Nat) : (Addr.mk b a none).add i = ⟨b,a + i,none⟩:=by
  unfold Addr.add
  split
  · rename_i h; simp_all
  · rfl
theorem x3o {n : Int} (h : (Lit.int .u8 n).wf = true) : 0 ≤ n ∧ n ≤ 255:=by simpa [Lit.wf,IntKind.min,IntKind.max,IntKind.signed,IntKind.bits] using h
end Go.Hub
namespace Go.Hub
open Go.RowKit
def Rds (w : World) (B size : Nat) (A : Option Addr) (n : Nat) (xs : List Value) : Prop:=
  xs.length = n * size ∧ (0 < n → ∃ b off,A = some ⟨b,off,none⟩ ∧ b < B ∧ ∀ j u,xs[j]? = some u → w.cell? ⟨b,off + j,none⟩ = some u)
section
variable {w w' : World} {B B' size n : Nat} {A : Option Addr} {xs : List Value}
theorem Rds.nil (w : World) (B size : Nat) (A : Option Addr) : Rds w B size A 0 []:=⟨by simp,fun h=>absurd h (by omega)⟩
theorem Rds.cut (h : Rds w B size A n xs) {k cap : Nat} (i : k ≤ n) (g : n ≤ cap) :
    Rds w B size (if cap = k then A else A.map (·.add (k * size))) (n - k) (xs.drop (k * size)):=by
  refine ⟨by rw [List.length_drop,h.1,Nat.sub_mul],fun l=>?_⟩;obtain ⟨b,c,rfl,d,a⟩:=h.2 (by omega);rw [if_neg (by omega)];refine ⟨b,c + k * size,by simp [B9],d,fun j u f=>?_⟩;rw [Nat.add_assoc];exact a _ u (by rw [← f,List.getElem?_drop])
theorem Rds.drew (h : Rds w B size A n xs) : Rds w.drew B size A n xs:=h
theorem Jn {a : Option Nat} (h : w.grownBy w' a) : Kept a.toList w w':=
  ⟨h.os,h.tape,h.output,h.size,fun k b c=>h.block k b (fun e=>c (by rw [← e]; simp))⟩
end
section
variable {P : Program} (w : World)
theorem Nc (a : Nat) (t ty e : TypeId) (i : TypeInfo) (size : Nat) (f : P.underlying t = some (.slice e)) (hi : P.info? e = some i)
    (v : Value) (n : Nat) (xs : List Value) (b : w.ownsRow a e size v n xs) (c : Nat) : (Builtin.append_ #[t,t] ty #[v,.slice none 0 c]).run P w = .ok v w:=by
  rcases b.2 with ⟨rfl,rfl⟩ | ⟨g,h,j,rfl,_,_,d,_⟩
  · simp [Builtin.append_,run_underlying f,sizeOf,typeInfo,hi,Builtin.lenOf,Builtin.firstCells]
  · simp [Builtin.append_,run_underlying f,sizeOf,typeInfo,hi,Builtin.lenOf,Builtin.firstCells,d,storeCells]
theorem Nx (f : Nat) (t ty e : TypeId) (i : TypeInfo) (z : Value) (size g : Nat) (ht : P.underlying t = some (.slice e)) (hi : P.info? e = some i) (hz : i.zero = some z)
    (r : i.size = size) (a0 : i.bytes = g) (a3 : z.cells.size = size) (a2 : 0 < size)
    (v : Value) (n : Nat) (xs : List Value) (k : w.ownsRow f e size v n xs)
    (B : Nat) (A : Option Addr) (m c : Nat) (d : List Value) (s : Rds w B size A m d) (hA : m = 0 → A = none ∨ ∃ a,A = some a) (h1 : ∀ u ∈ d,u.oneCell' = true)
    (y : n + m ≤ maxLen) (l : (n + m) * g ≤ 140737488355328) (q : f ≤ w.heap.size) :
    ∃ v' w', (Builtin.append_ #[t, t] ty #[v, .slice A m c]).run P w = .ok v' w' ∧ w'.ownsRow f e size v' (n + m) (xs ++ d) ∧ w.grownBy w' v.ownBlock ∧
      (v'.ownBlock = v.ownBlock ∨ v'.ownBlock = some w.heap.size):=by
  rcases A with _ | ad
  · have hm : m = 0:=by
      rcases Nat.eq_zero_or_pos m with p | p
      · exact p
      · obtain ⟨b, a4, h, _⟩ := s.2 p
        cases h
    subst hm;have hn : d = []:=List.eq_nil_of_length_eq_zero (by simpa using s.1);subst hn;exact ⟨v,w,Nc w f t ty e i size ht hi v n xs k c,by simpa using k,World.grownBy.refl w _,.inl rfl⟩
  · have o : ∀ j u,d[j]? = some u → w.cell? (ad.add j) = some u:=by
      intro j u hu
      rcases Nat.eq_zero_or_pos m with p | p
      · subst p
        have hn : d = []:=List.eq_nil_of_length_eq_zero (by simpa using s.1);subst hn;simp at hu
      · obtain ⟨b, a4, h, _, hc⟩ := s.2 p
        injection h with h
        subst h;rw [B9];exact hc j u hu
    obtain ⟨v',w',x,h2,h3,_,h5⟩:=run_append_own_at (P:=P) w f t ty e i z size g ht hi hz r a0 a3 a2 v n xs k ad m c d s.1 o h1 y l q;exact ⟨v',w',x,h2,h3,h5⟩
end
end Go.Hub
namespace Go.Hub
open Go.RowKit
theorem Dd (g : Nat) : ∀ (d : List Value) (o : Nat) (w : World) (a : Array Value) (e : TypeId) (f : Nat × Nat), w.heap[g]? = some (.cells a e f) →
    ∃ cur' : Array Value,(w.setCells g o d).heap[g]? = some (.cells cur' e f) ∧ cur'.size = a.size ∧ (∀ j,j < o → cur'[j]? = a[j]?) ∧ (∀ j u,d[j]? = some u → o + j < a.size → cur'[o + j]? = some u)
  | [],o,w,a,e,f,h=>⟨a,h,rfl,fun _ _=>rfl,fun j u hu=>by simp at hu⟩
  | v :: r,o,w,a,e,f,h=>by
    have h1 : (w.setCell ⟨g,o,none⟩ v).heap[g]? = some (.cells (a.setIfInBounds o v) e f):=by
      simp [World.setCell,Array.getElem?_modify,h]
    obtain ⟨cur',i,k,c,l⟩:=Dd g r (o + 1) (w.setCell ⟨g,o,none⟩ v) _ e f h1;refine ⟨cur',i,by rw [k]; simp,fun j m=>?_,fun j u hu b=>?_⟩
    · rw [c j (by omega), Array.getElem?_setIfInBounds]
      rw [if_neg (by omega)]
    · match j,hu with
      | 0,hu=>
        simp at hu;subst hu;rw [Nat.add_zero] at b ⊢;rw [c o (by omega),Array.getElem?_setIfInBounds,if_pos rfl,if_pos b]
      | j + 1,hu=>
        have:=l j u (by simpa using hu) (by simp; omega);rw [show o + (j + 1) = o + 1 + j from by omega];exact this
theorem De (g : Nat) : ∀ (vs : List Value) (o : Nat) (w : World) (k : Nat), k ≠ g → (w.setCells g o vs).heap[k]? = w.heap[k]?
  | [],_,_,_,_=>rfl
  | v :: r,o,w,k,h=>(De g r (o + 1) (w.setCell ⟨g,o,none⟩ v) k h).trans (Below.heap_setCell _ _ _ _ h)
theorem Df (g : Nat) : ∀ (f : List Value) (o : Nat) (w : World), (w.setCells g o f).os = w.os ∧ (w.setCells g o f).tape = w.tape ∧ (w.setCells g o f).output = w.output ∧ (w.setCells g o f).heap.size = w.heap.size
  | [],_,_=>⟨rfl,rfl,rfl,rfl⟩
  | v :: r,o,w=>by
    obtain ⟨a,b,c,d⟩:=Df g r (o + 1) (w.setCell ⟨g,o,none⟩ v)
    exact ⟨a,b,c,by rw [World.setCells,d]; simp [World.setCell]⟩
def Own (w : World) (e : TypeId) (size : Nat) (v : Value) (n : Nat) (xs : List Value) : Prop:=
  xs.length = n * size ∧ ((v = .slice none 0 0 ∧ n = 0) ∨
    ∃ g off cap cur,v = .slice (some ⟨g,off,none⟩) n cap ∧ w.heap[g]? = some (.cells cur e (0,0)) ∧ n ≤ cap ∧ cap ≤ maxLen ∧ off + cap * size ≤ cur.size ∧ ∀ j u,xs[j]? = some u → cur[off + j]? = some u)
section
variable {w w' : World} {e : TypeId} {size : Nat} {v : Value} {n : Nat} {xs : List Value}
theorem Own.nil (w : World) (e : TypeId) (size : Nat) : Own w e size (.slice none 0 0) 0 []:=⟨by simp,.inl ⟨rfl,rfl⟩⟩
theorem Own.of_row {a : Nat} (h : w.ownsRow a e size v n xs) : Own w e size v n xs:=by
  refine ⟨h.1,?_⟩
  rcases h.2 with o | ⟨g,d,f,q,_,m,k,i,l,p⟩
  · exact .inl o
  · refine .inr ⟨g, 0, d, f, q, m, k, i, by omega, fun j u b => ?_⟩
    rw [← p] at b;rw [Nat.zero_add]
    have c : j < n * size:=by
      rcases Nat.lt_or_ge j (n * size) with c | c
      · exact c
      · rw [List.getElem?_take,if_neg (by omega)] at b; cases b
    rw [List.getElem?_take,if_pos c] at b
    simpa using b
theorem Own.form (h : Own w e size v n xs) : ∃ A c,v = .slice A n c ∧ n ≤ c ∧ c ≤ maxLen:=by
  rcases h.2 with ⟨rfl,rfl⟩ | ⟨g,i,a,b,rfl,_,f,d,_⟩
  · exact ⟨none,0,rfl,Nat.le_refl _,by simp [maxLen]⟩
  · exact ⟨_,_,rfl,f,d⟩
theorem Own.blk (h : Own w e size v n xs) : ∀ k,v.ownBlock = some k → k < w.heap.size ∧ ∃ cs,w.heap[k]? = some (.cells cs e (0,0)):=by
  intro k b
  rcases h.2 with ⟨rfl,rfl⟩ | ⟨g,f,d,a,rfl,c,_⟩
  · simp [Value.ownBlock] at b
  · simp [Value.ownBlock] at b
    subst b;exact ⟨(Array.getElem?_eq_some_iff.1 c).1,a,c⟩
theorem Own.of_eq (h : Own w e size v n xs) (d : ∀ k,v.ownBlock = some k → w'.heap[k]? = w.heap[k]?) : Own w' e size v n xs:=by
  refine ⟨h.1,?_⟩
  rcases h.2 with i | ⟨g,c,a,b,rfl,f,r⟩
  · exact .inl i
  · exact .inr ⟨g,c,a,b,rfl,(d g rfl).trans f,r⟩
theorem Own.kept {L : List Nat} (h : Own w e size v n xs) (b : Kept L w w') (c : ∀ k,v.ownBlock = some k → k ∉ L) : Own w' e size v n xs:=
  h.of_eq fun k a=>b.block k (h.blk k a).1 (c k a)
theorem Own.alloc (h : Own w e size v n xs) (o : Obj) : Own (w.alloc o) e size v n xs:=h.of_eq fun k a=>Below.heap_alloc w o k (h.blk k a).1
theorem Own.drew (h : Own w e size v n xs) : Own w.drew e size v n xs:=h
theorem Own.rds {A : Option Addr} {c : Nat} (h : Own w e size (.slice A n c) n xs) : Rds w w.heap.size size A n xs:=by
  refine ⟨h.1,fun o=>?_⟩
  rcases h.2 with ⟨_,m⟩ | ⟨g,a,f,b,l,d,_,_,_,i⟩
  · omega
  · injection l with hA
    refine ⟨g,a,hA,(Array.getElem?_eq_some_iff.1 d).1,fun j u k=>?_⟩;rw [cell_of_row w g (a + j) b e (0,0) d];exact i j u k
theorem Own.cut {A : Option Addr} {c : Nat} (h : Own w e size (.slice A n c) n xs) {k : Nat} (t : k ≤ n) :
    Own w e size (.slice (if c = k then A else A.map (·.add (k * size))) (n - k) (c - k)) (n - k) (xs.drop (k * size)):=by
  refine ⟨by rw [List.length_drop,h.1,Nat.sub_mul],?_⟩
  rcases h.2 with ⟨i,s⟩ | ⟨g,d,m,a,i,l,r,p,q,o⟩
  · injection i with h1 h2 h3
    subst h1 h2 h3;exact .inl ⟨by simp,by omega⟩
  · injection i with h1 h2 h3
    subst h1 h3
    by_cases b : c = k
    · rw [if_pos b]
      refine .inr ⟨g,d,c - k,a,rfl,l,by omega,by omega,?_,fun j u f=>?_⟩
      · rw [Nat.sub_mul]; omega
      · have : xs.drop (k * size) = []:=by
          apply List.drop_eq_nil_of_le
          rw [h.1];exact Nat.mul_le_mul_right _ (by omega)
        rw [this] at f;simp at f
    · rw [if_neg b]
      refine .inr ⟨g,d + k * size,c - k,a,by simp [B9],l,by omega,by omega,?_,fun j u f=>?_⟩
      · rw [Nat.sub_mul]
        have : k * size ≤ c * size:=Nat.mul_le_mul_right _ (by omega);omega
      · rw [Nat.add_assoc]
        exact o _ u (by rw [← f,List.getElem?_drop])
theorem Own.head {A : Option Addr} {c : Nat} (h : Own w e size (.slice A n c) n xs) {k : Nat} (s : k ≤ n) : Own w e size (.slice A k c) k (xs.take (k * size)):=by
  have f : k * size ≤ n * size:=Nat.mul_le_mul_right _ s;refine ⟨by rw [List.length_take,h.1,Nat.min_eq_left f],?_⟩
  rcases h.2 with ⟨l,x⟩ | ⟨g,m,p,a,l,r,t,b,d,q⟩
  · injection l with h1 h2 h3
    subst h1 h3
    obtain rfl : k = 0:=by omega
    exact .inl ⟨rfl,rfl⟩
  · injection l with h1 h2 h3
    subst h1 h3;refine .inr ⟨g,m,c,a,rfl,r,by omega,b,d,fun j u i=>q j u ?_⟩
    by_cases o : j < k * size
    · rwa [List.getElem?_take,if_pos o] at i
    · rw [List.getElem?_take,if_neg o] at i; cases i
end
section
variable {P : Program} (w : World)
theorem Ny (t ty e : TypeId) (i : TypeInfo) (z : Value) (size l : Nat) (ht : P.underlying t = some (.slice e)) (hi : P.info? e = some i) (hz : i.zero = some z)
    (q : i.size = size) (ag : i.bytes = l) (ak : z.cells.size = size) (aj : 0 < size)
    (v : Value) (n : Nat) (xs : List Value) (f : Own w e size v n xs)
    (B : Nat) (A : Option Addr) (m c : Nat) (a : List Value) (hr : Rds w B size A m a) (h1 : ∀ u ∈ a,u.oneCell' = true)
    (af : n + m ≤ maxLen) (r : (n + m) * l ≤ 140737488355328) :
    ∃ v' w', (Builtin.append_ #[t, t] ty #[v, .slice A m c]).run P w = .ok v' w' ∧ Own w' e size v' (n + m) (xs ++ a) ∧ Kept v.ownBlock.toList w w' ∧
      (∀ k,v'.ownBlock = some k → v.ownBlock = some k ∨ w.heap.size ≤ k):=by
  rcases f.2 with ⟨rfl,rfl⟩ | ⟨g,d,s,a5,rfl,hg,au,ar,ba,hc⟩
  · have hx : xs = [] := List.eq_nil_of_length_eq_zero (by simpa using f.1)
    subst hx;obtain ⟨v',w',o,ho,a9,b9⟩:=Nx (P:=P) w w.heap.size t ty e i z size l ht hi hz q ag ak aj (.slice none 0 0) 0 [] (World.ownsRow_nil _ _ _ _) B A m c a hr (fun _=>by cases A <;> simp) h1 af r (Nat.le_refl _);exact ⟨v',w',o,Own.of_row ho,Jn a9,fun k hk=>.inr (ho.lt k hk).1⟩
  · rcases A with _ | ad
    · have hm : m = 0:=by
        rcases Nat.eq_zero_or_pos m with h0 | h0
        · exact h0
        · obtain ⟨b, d, h, _⟩ := hr.2 h0
          cases h
      subst hm;have hn : a = []:=List.eq_nil_of_length_eq_zero (by simpa using hr.1);subst hn;refine ⟨_,w,?_,by simpa using f,Kept.refl _ _,fun k hk=>.inl hk⟩;simp [Builtin.append_,run_underlying ht,sizeOf,typeInfo,hi,Builtin.lenOf,Builtin.firstCells,au,storeCells]
    · have y : ∀ j u,a[j]? = some u → w.cell? (ad.add j) = some u:=by
        intro j u hu
        rcases Nat.eq_zero_or_pos m with h0 | h0
        · subst h0
          have hn : a = []:=List.eq_nil_of_length_eq_zero (by simpa using hr.1);subst hn;simp at hu
        · obtain ⟨b, d, h, _, aq⟩ := hr.2 h0
          injection h with h
          subst h;rw [B9];exact aq j u hu
      have x : a.length = m * size:=hr.1
      by_cases p : n + m ≤ s
      · have ax : n * size + m * size ≤ s * size := by rw [← Nat.add_mul]; exact Nat.mul_le_mul_right _ p
        subst q;have a8 : ∀ j,j < a.length → w.cell? ⟨g,d + n * i.size + j,none⟩ = a5[d + n * i.size + j]?:=fun j hj=>cell_of_row w g _ a5 e (0,0) hg
        have o := run_append_room_cells (P := P) w t ty e i ht hi g d n s ad m c a x y h1 p
          (fun j hj=>by rw [a8 j hj,Array.getElem?_eq_getElem (by omega)]; rfl) (fun j hj=>by simp [World.frozen?,hg])
        obtain ⟨ae,a1,a2,a3,a4⟩:=Dd g a (d + n * i.size) w a5 e (0,0) hg;obtain ⟨b1,b2,b3,b4⟩:=Df g a (d + n * i.size) w
        refine ⟨_, _, o, ⟨by rw [List.length_append, f.1, x, Nat.add_mul], .inr ⟨g, d, s, ae, rfl, a1, p, ar, by omega, fun j u hu => ?_⟩⟩,
          ⟨b1,b2,b3,by omega,fun k hk hn=>De g _ _ w k (by simpa [Value.ownBlock] using hn)⟩,fun k hk=>.inl hk⟩
        rcases Nat.lt_or_ge j xs.length with hj | hj
        · rw [List.getElem?_append_left hj] at hu
          rw [a3 _ (by have:=f.1; omega)];exact hc j u hu
        · rw [List.getElem?_append_right hj] at hu
          have bb : j - xs.length < a.length:=by
            rcases Nat.lt_or_ge (j - xs.length) a.length with h | h
            · exact h
            · rw [List.getElem?_eq_none h] at hu; cases hu
          have:=a4 (j - xs.length) u hu (by have:=f.1; omega);rw [show d + n * i.size + (j - xs.length) = d + j from by have:=f.1; omega] at this;exact this
      · have ab : ∀ j u,xs[j]? = some u → w.cell? ((⟨g,d,none⟩ : Addr).add j) = some u:=fun j u hu=>by
          rw [B9,cell_of_row w g (d + j) a5 e (0,0) hg];exact hc j u hu
        obtain ⟨v',w',o,ho,a9⟩:=run_append_arg_grows (P:=P) w t ty e i z size l ht hi hz q ag ak aj ⟨g,d,none⟩ n s xs f.1 ab ad m c a x y (by omega) af r;exact ⟨v',w',o,Own.of_row ho,(Jn a9).mono (by simp),fun k hk=>.inr (ho.lt k hk).1⟩
theorem Qr {o : Oper} {a : Act} {K : Act → World → Prop} {Q : Exit → Act → World → Prop} (s x : Operand) (t : TypeId)
    (ho : o.op = .call { callee:=.builtin .append,args:=#[s,x],argTypes:=#[t,t] })
    (e : TypeId) (i : TypeInfo) (z : Value) (size b : Nat) (ht : P.underlying t = some (.slice e)) (hi : P.info? e = some i) (hz : i.zero = some z)
    (g : i.size = size) (q : i.bytes = b) (y : z.cells.size = size) (r : 0 < size)
    (v : Value) (n : Nat) (xs : List Value) (hs : a.eval s = v) (j : Own w e size v n xs)
    (B : Nat) (A : Option Addr) (m c : Nat) (d : List Value) (hx : a.eval x = .slice A m c) (hr : Rds w B size A m d) (h1 : ∀ u ∈ d,u.oneCell' = true)
    (p : n + m ≤ maxLen) (f : (n + m) * b ≤ 140737488355328)
    (h : ∀ v' w',Own w' e size v' (n + m) (xs ++ d) → Kept v.ownBlock.toList w w' → (∀ k,v'.ownBlock = some k → v.ownBlock = some k ∨ w.heap.size ≤ k) → K (a.put o.dst v') w') : o.wp P a w K Q:=by
  obtain ⟨v',w',l,h2,h3,h4⟩:=Ny (P:=P) w t o.type e i z size b ht hi hz g q y r v n xs j B A m c d hr h1 p f;unfold Oper.wp execOp;simp only [ho,resolve,invoke,builtin,Sem.run_bind,Sem.run_pure,Result.andThen_ok,List.map_toArray,List.map_cons,List.map_nil,hs,hx,l];exact h v' w' h2 h3 h4
theorem Jo {d : Array Oper} {b : List Oper} {o : Oper} {a : Act} {Q : Exit → Act → World → Prop} (j : o.guard = none) (s x : Operand) (t : TypeId)
    (y : o.op = .call { callee:=.builtin .append,args:=#[s,x],argTypes:=#[t,t] })
    (e : TypeId) (i : TypeInfo) (z : Value) (size bytes : Nat) (ht : P.underlying t = some (.slice e)) (hi : P.info? e = some i) (hz : i.zero = some z)
    (hsize : i.size = size) (hby : i.bytes = bytes) (hzs : z.cells.size = size) (hsz : 0 < size)
    (v : Value) (n : Nat) (xs : List Value) (hs : a.eval s = v) (hown : Own w e size v n xs)
    (B : Nat) (A : Option Addr) (m c : Nat) (news : List Value) (hx : a.eval x = .slice A m c) (hr : Rds w B size A m news) (h1 : ∀ u ∈ news,u.oneCell' = true)
    (h63 : n + m ≤ maxLen) (hbytes : (n + m) * bytes ≤ 140737488355328)
    (h : ∀ f g,Own g e size f (n + m) (xs ++ news) → Kept v.ownBlock.toList w g → (∀ k,f.ownBlock = some k → v.ownBlock = some k ∨ w.heap.size ≤ k) → wpList P d Q b (a.put o.dst f) g) : wpList P d Q (o :: b) a w:=
  wpList_plain j fun _ r=>Qr w s x t y e i z size bytes ht hi hz hsize hby hzs hsz v n xs hs hown B A m c news hx hr h1 h63 hbytes fun f g l p q=>r _ _ (h f g l p q)
theorem Rds.boxed (w : World) (cs : Array Value) (e : TypeId) (size : Nat) (h : cs.size = size) : Rds (w.alloc (.cells cs e)) (w.heap.size + 1) size (some ⟨w.heap.size,0,none⟩) 1 cs.toList:=
  ⟨by simp [h],fun _=>⟨w.heap.size,0,rfl,by omega,fun j u a=>by rw [Nat.zero_add,World.cell?_alloc_new]; simpa using a⟩⟩
end
def Typ (w : World) (k : Nat) (E : List TypeId) : Prop:=∃ cs e f,w.heap[k]? = some (.cells cs e f) ∧ e ∈ E
structure Same (E : List TypeId) (B : Nat) (w w' : World) : Prop where
  os : w'.os = w.os
  tape : w'.tape = w.tape
  output : w'.output = w.output
  size : w.heap.size ≤ w'.heap.size
  block : ∀ k,k < w.heap.size → (k < B ∨ Typ w k E) → w'.heap[k]? = w.heap[k]?
section
variable {E : List TypeId} {B : Nat} {w w' w'' : World}
theorem Typ.of_eq {k : Nat} (h : Typ w k E) (c : w'.heap[k]? = w.heap[k]?) : Typ w' k E:=by obtain ⟨a,e,f,h,b⟩:=h; exact ⟨a,e,f,c.trans h,b⟩
theorem Same.of_kept {L : List Nat} (h : Kept L w w') (c : ∀ x ∈ L,x < w.heap.size → B ≤ x ∧ ¬ Typ w x E) : Same E B w w':=
  ⟨h.os,h.tape,h.output,h.size,fun k b a=>h.block k b fun d=>by
    have:=c k d b
    rcases a with a | a
    · omega
    · exact this.2 a⟩
theorem Hl {k : Nat} {cs : Array Value} {e : TypeId} {f : Nat × Nat} (h : w.heap[k]? = some (.cells cs e f)) (d : e ∉ E) : ¬ Typ w k E:=by
  rintro ⟨c,g,i,a,b⟩;rw [h] at a
  injection a with a
  injection a with _ h2 _
  exact d (h2 ▸ b)
end
def u8 (x : UInt8) : Value:=.int .u8 (x.toNat : Int)
def Bs (E : List TypeId) (B : Nat) (w : World) (A : Option Addr) (n : Nat) (l : List UInt8) : Prop:=
  l.length = n ∧ (0 < n → ∃ b off,A = some ⟨b,off,none⟩ ∧ b < w.heap.size ∧ (b < B ∨ Typ w b E) ∧ ∀ j x,l[j]? = some x → w.cell? ⟨b,off + j,none⟩ = some (u8 x))
section
variable {E : List TypeId} {B : Nat} {w w' : World} {A : Option Addr} {n : Nat} {l : List UInt8}
theorem Bs.nil (E : List TypeId) (B : Nat) (w : World) (A : Option Addr) : Bs E B w A 0 []:=⟨rfl,fun h=>absurd h (by omega)⟩
theorem Bs.same (h : Bs E B w A n l) (i : Same E B w w') : Bs E B w' A n l:=
  ⟨h.1,fun m=>by
    obtain ⟨b,d,e,g,c,k⟩:=h.2 m
    have f:=i.block b g c
    refine ⟨b,d,e,Nat.lt_of_lt_of_le g i.size,?_,fun j x o=>(World.cell?_of_block (w:=w) (a:=⟨b,d + j,none⟩) f).trans (k j x o)⟩
    rcases c with c | c
    · exact .inl c
    · exact .inr (c.of_eq f)⟩
theorem Bs.rds (h : Bs E B w A n l) : Rds w w.heap.size 1 A n (l.map u8):=by
  refine ⟨by simp [h.1],fun g=>?_⟩;obtain ⟨b,a,e,d,_,f⟩:=h.2 g;refine ⟨b,a,e,d,fun j u c=>?_⟩;simp only [List.getElem?_map,Option.map_eq_some_iff] at c;obtain ⟨x,i,rfl⟩:=c;exact f j x i
theorem Bs.oO {e : TypeId} {c : Nat} (h : Own w e 1 (.slice A n c) n (l.map u8)) (k : e ∈ E) : Bs E B w A n l:=by
  refine ⟨by have:=h.1; simpa using this,fun q=>?_⟩
  rcases h.2 with ⟨_,p⟩ | ⟨g,b,f,a,m,d,_,_,_,i⟩
  · omega
  · injection m with hA
    refine ⟨g,b,hA,(Array.getElem?_eq_some_iff.1 d).1,.inr ⟨a,e,_,d,k⟩,fun j x o=>?_⟩;rw [cell_of_row w g (b + j) a e (0,0) d];exact i j _ (by simp [o])
theorem Nz : ∀ u ∈ l.map u8,u.oneCell' = true:=fun u a=>by
  simp at a
  obtain ⟨x,_,rfl⟩:=a
  rfl
theorem Bs.conv {P : Program} {d dst e : TypeId} {c : Nat} (h : Bs E B w A n l) (p : P.underlying d = some (.slice e)) (o : P.underlying e = some (.int .u8)) (m : P.underlying dst = some .string) :
    (convert d dst (.slice A n c)).run P w = .ok (.string ⟨l.toArray⟩) w:=by
  have j : ∀ l : List UInt8,strOfNums (l.map fun x=>(x.toNat : Int)) = ⟨l.toArray⟩:=fun l=>by
    unfold strOfNums
    congr 1
    simp [List.map_map,Function.comp_def]
  rcases Nat.eq_zero_or_pos n with g | g
  · subst g
    have f : l = []:=List.eq_nil_of_length_eq_zero h.1;subst f;rw [run_convert_bytes_string w d dst e A 0 c p o m]
    cases A with
    | none=>simp [Conv.bytesToString]; rfl
    | some a=>
      rw [run_bytesToString w a 0 c [] (by simp [loadCells,loadCellsFrom])]
      rfl
  · obtain ⟨b, k, rfl, _, _, q⟩ := h.2 g
    rw [run_convert_bytes_arg (P:=P) w d e p o b k n c (l.map fun x=>(x.toNat : Int)) (by simp [h.1]) (fun i r=>?_) dst m,j];have f : i < l.length:=by have:=h.1; omega
    rw [q i l[i] (by simp [f])];simp [u8,List.getD_eq_getElem?_getD,f]
end
def Seq {M : Type} (size : Nat) (rel : List Value → M → Prop) (xs : List Value) (ms : List M) : Prop:=
  xs.length = ms.length * size ∧ ∀ i m,ms[i]? = some m → rel ((xs.drop (i * size)).take size) m
section
variable {M : Type} {size : Nat} {rel rel' : List Value → M → Prop} {xs ys : List Value} {ms ns : List M}
theorem Seq.nil (size : Nat) (rel : List Value → M → Prop) : Seq size rel [] []:=⟨by simp,fun i m h=>by simp at h⟩
theorem Seq.append (h : Seq size rel xs ms) (k : Seq size rel ys ns) : Seq size rel (xs ++ ys) (ms ++ ns):=by
  refine ⟨by rw [List.length_append,List.length_append,h.1,k.1,Nat.add_mul],fun i m b=>?_⟩
  rcases Nat.lt_or_ge i ms.length with a | a
  · rw [List.getElem?_append_left a] at b
    have:=h.2 i m b
    have c : i * size + size ≤ xs.length:=by
      rw [h.1]
      calc i * size + size = (i + 1) * size := by rw [Nat.add_mul, Nat.one_mul]
        _ ≤ ms.length * size:=Nat.mul_le_mul_right _ a
    rw [List.drop_append_of_le_length (by omega),List.take_append_of_le_length (by rw [List.length_drop]; omega)];exact this
  · rw [List.getElem?_append_right a] at b
    have:=k.2 _ m b
    have e : (xs ++ ys).drop (i * size) = ys.drop ((i - ms.length) * size):=by
      rw [List.drop_append,List.drop_eq_nil_of_le (by rw [h.1]; exact Nat.mul_le_mul_right _ a),List.nil_append,h.1,Nat.sub_mul]
    rw [e];exact this
theorem Seq.drop (h : Seq size rel xs ms) (k : Nat) : Seq size rel (xs.drop (k * size)) (ms.drop k):=by
  refine ⟨by rw [List.length_drop,List.length_drop,h.1,Nat.sub_mul],fun i m a=>?_⟩;rw [List.getElem?_drop] at a;have:=h.2 _ m a;rw [List.drop_drop,← Nat.add_mul];exact this
theorem Seq.one {cs : List Value} {m : M} (b : cs.length = size) (h : rel cs m) : Seq size rel cs [m]:=
  ⟨by simp [b],fun i n a=>by
    match i,a with
    | 0,a=>
      simp at a
      subst a
      simpa [← b] using h⟩
end
section
variable {w w' : World} {g : Nat} {t : TypeId} {cs : Array Value}
theorem Blk.not_typ {E : List TypeId} (h : Blk w g t cs) (a : t ∉ E) : ¬ Typ w g E:=Hl h a
theorem Kept.below0 (h : Kept [] w w') : Below w.heap.size w w':=h.below (by simp) (Nat.le_refl _)
end
section
variable {P : Program} {fn : Func} {R : Ending → World → Prop} {a : Act} {w : World} {p u ty : Nat}
theorem x3p (h : fn.results = #[.cell p ty]) {g : Nat} {cs : Array Value} {t : TypeId} (d : TypeDesc) (l : a.tmps.getD p undef = .pointer (some ⟨g, 0, none⟩)) (j : Blk w g t cs)
    (m : P.underlying ty = some d) (i : (match d with | .struct _ | .array _ _=>true | _=>false) = true) (hi : (P.info? ty).map (·.size) = some cs.size) (b : a.defers = [])
    (f : R (.returned (.agg cs)) w) : bodyPost P fn R .ret a w:=by
  refine bodyPost_ret (v:=.agg cs) ?_ b f;have k:=run_loadVar_row (P:=P) w g t ty cs (0,0) d j m i hi;have c : a.tmps[p]?.getD undef = .pointer (some ⟨g,0,none⟩):=by simpa using l
  simp [results,h,c,asAddr,Sem.run_bind,Result.andThen,k]
theorem Tc (h : fn.results = #[.cell p ty, .tmp u]) {g : Nat} {cs : Array Value} {t : TypeId} {v : Value} (d : TypeDesc) (k : a.tmps.getD p undef = .pointer (some ⟨g, 0, none⟩)) (m : a.tmps.getD u undef = v) (i : Blk w g t cs)
    (l : P.underlying ty = some d) (f : (match d with | .struct _ | .array _ _=>true | _=>false) = true) (hi : (P.info? ty).map (·.size) = some cs.size) (b : a.defers = [])
    (c : R (.returned (.tuple #[.agg cs,v])) w) : bodyPost P fn R .ret a w:=by
  refine bodyPost_ret (v:=.tuple #[.agg cs,v]) ?_ b c;have j:=run_loadVar_row (P:=P) w g t ty cs (0,0) d i l f hi;rw [results_cell_tmp h,k,m];simp [asAddr,Result.andThen,j]
end
end Go.Hub
namespace Go.Hub
open Go.RowKit
abbrev FL:=List (Nat × Value)
def look : FL → Nat → Option Value
  | [],_=>none
  | (i,v) :: r,j=>bif i == j then some v else look r j
def Ae (l : FL) : Operand → Option Value
  | .tmp t=>look l t
  | .const v=>some v
  | .global g=>some (.pointer (some ⟨g,0,none⟩))
  | .func f=>some (.func (.func f) #[] #[])
structure Fr (n : Nat) (a : Act) (l : FL) : Prop where
  defers : a.defers = []
  size : a.tmps.size = n
  slot : ∀ i v,look l i = some v → a.tmps[i]? = some v
section
variable {n : Nat} {a : Act} {l : FL}
theorem Fr.ev (f : Fr n a l) {x : Operand} {v : Value} (h : Ae l x = some v) : a.eval x = v:=by
  cases x with
  | tmp t=>simp only [Act.eval,Array.getD_eq_getD_getElem?,f.slot t v h,Option.getD_some]
  | const c=>simpa [Ae,Act.eval] using h
  | global g=>simpa [Ae,Act.eval] using h
  | func g=>simpa [Ae,Act.eval] using h
theorem Fr.get (f : Fr n a l) {i : Nat} {v : Value} (h : look l i = some v) : a.tmps.getD i undef = v:=by
  rw [Array.getD_eq_getD_getElem?,f.slot i v h,Option.getD_some]
theorem Fr.put (f : Fr n a l) (d : Nat) (v : Value) (g : d < n) : Fr n (a.put (some d) v) ((d,v) :: l):=by
  refine ⟨f.defers,by simp [Act.put,f.size],fun i u h=>?_⟩;unfold look at h;simp only [Act.put,Array.getElem?_setIfInBounds]
  by_cases b : d = i
  · subst b
    simp at h;subst h;rw [if_pos rfl,if_pos (by rw [f.size]; exact g)]
  · have c : (d == i) = false := by simp [b]
    simp [c] at h;rw [if_neg b];exact f.slot i u h
theorem Fr.putNone (f : Fr n a l) (v : Value) : Fr n (a.put none v) l:=f
def sub (l : FL) : FL → Prop
  | []=>True
  | p :: r=>look l p.1 = some p.2 ∧ sub l r
theorem x3q {l c : FL} (h : sub l c) : ∀ i v,look c i = some v → look l i = some v:=by
  induction c with
  | nil=>intro i v h; simp [look] at h
  | cons p r ih=>
    obtain ⟨f,g⟩:=h;intro i v b;unfold look at b
    by_cases d : p.1 = i
    · subst d
      simp at b;rw [← b]; exact f
    · have j : (p.1 == i) = false := by simp [d]
      simp [j] at b;exact ih g i v b
theorem y8c {l : FL} : sub l []:=trivial
theorem Dx {l : FL} {i : Nat} {v : Value} {r : FL} (h : look l i = some v) (b : sub l r) : sub l ((i,v) :: r):=⟨h,b⟩
theorem Fr.sub {b : FL} (f : Fr n a l) (h : sub l b) : Fr n a b:=⟨f.defers,f.size,fun i v c=>f.slot i v (x3q h i v c)⟩
theorem Fr.as (f : Fr n a l) {i : Nat} {v v' : Value} (h : look l i = some v) (e : v = v') : Fr n a ((i,v') :: l):=by
  subst e;refine ⟨f.defers,f.size,fun j u b=>?_⟩;unfold look at b
  by_cases c : i = j
  · subst c
    simp at b;subst b;exact f.slot i v h
  · have d : (i == j) = false := by simp [c]
    simp [d] at b;exact f.slot j u b
theorem Fr.start (b : Array Value) (n : Nat) (h : b.size ≤ n) : Fr n { tmps:=b ++ Array.replicate (n - b.size) undef,defers:=[] } (b.toList.zipIdx.map fun p=>(p.2,p.1)):=by
  refine ⟨rfl,by simp; omega,fun i v o=>?_⟩
  have g : ∀ (d : List Value) (k i : Nat) (v : Value),look ((d.zipIdx k).map fun p=>(p.2,p.1)) i = some v → k ≤ i ∧ d[i - k]? = some v:=by
    intro d
    induction d with
    | nil=>intro k i v h; simp [look] at h
    | cons x r ih=>
      intro k i v h;simp only [List.zipIdx_cons,List.map_cons,look] at h
      by_cases j : k = i
      · subst j
        simp at h;subst h
        simp
      · have m : (k == i) = false := by simp [j]
        simp [m] at h;obtain ⟨q,c⟩:=ih (k + 1) i v h;refine ⟨by omega,?_⟩;rw [show i - k = (i - (k + 1)) + 1 from by omega]
        simpa using c
  obtain ⟨_,c⟩:=g b.toList 0 i v o
  have f : i < b.size:=by
    rcases Nat.lt_or_ge i b.size with h | h
    · exact h
    · simp [h] at c
  simp only [Array.getElem?_append_left f]
  simpa using c
end
section
variable {P : Program} {ops : Array Oper} {rest : List Oper} {o : Oper} {a : Act} {w w' : World} {Q : Exit → Act → World → Prop} {n d : Nat} {l : FL} {v : Value}
theorem Fr.yield (f : Fr n a l) {j c : Nat} {b : Bool} (h : (ops[j]?).bind (·.dst) = some c) (g : look l c = some (.bool b)) : yielded ops a.tmps j = some b:=by
  unfold yielded;rw [h];simp [f.slot c _ g]
theorem L.val (f : Fr n a l) (hw : Region.wanted o (yielded ops a.tmps) = true) (g : o.dst = some d) (i : d < n) (h : (execOp a.eval o).run P w = .ok (.value v) w')
    (c : ∀ a',Fr n a' ((d,v) :: l) → wpList P ops Q rest a' w') : wpList P ops Q (o :: rest) a w:=
  wpList_step fun K b=>by
    rw [if_pos hw]
    unfold Oper.wp
    rw [h]
    show K (a.put o.dst v) w'
    rw [g]
    exact b _ _ (c _ (f.put d v i))
theorem L.act (f : Fr n a l) (hw : Region.wanted o (yielded ops a.tmps) = true) (g : o.dst = none) (h : (execOp a.eval o).run P w = .ok .skip w')
    (c : ∀ a',Fr n a' l → wpList P ops Q rest a' w') : wpList P ops Q (o :: rest) a w:=
  wpList_step fun K b=>by
    rw [if_pos hw]
    unfold Oper.wp
    rw [h]
    show K (a.put o.dst undef) w'
    rw [g]
    exact b _ _ (c _ f)
theorem L.drop (f : Fr n a l) (hw : Region.wanted o (yielded ops a.tmps) = true) (g : o.dst = none) (h : (execOp a.eval o).run P w = .ok (.value v) w')
    (c : ∀ a',Fr n a' l → wpList P ops Q rest a' w') : wpList P ops Q (o :: rest) a w:=
  wpList_step fun K b=>by
    rw [if_pos hw]
    unfold Oper.wp
    rw [h]
    show K (a.put o.dst v) w'
    rw [g]
    exact b _ _ (c _ f)
theorem L.skip (f : Fr n a l) (hw : Region.wanted o (yielded ops a.tmps) = false) (g : o.dst = some d) (h : d < n)
    (c : ∀ a',Fr n a' ((d,undef) :: l) → wpList P ops Q rest a' w) : wpList P ops Q (o :: rest) a w:=
  wpList_step fun K b=>by
    rw [if_neg (by rw [hw]; simp),g]
    exact b _ _ (c _ (f.put d undef h))
theorem L.skipN (f : Fr n a l) (hw : Region.wanted o (yielded ops a.tmps) = false) (g : o.dst = none)
    (c : ∀ a',Fr n a' l → wpList P ops Q rest a' w) : wpList P ops Q (o :: rest) a w:=
  wpList_step fun K b=>by
    rw [if_neg (by rw [hw]; simp),g]
    exact b _ _ (c _ f)
theorem B5 {fn : Nat} {xs : Array Operand} {c : Array TypeId} {dst : Option Nat} {ty : TypeId} {ps : String} {af : Array Edge} {g : Option (Nat × Bool)} {b : Array Value}
    (f : ∀ b w,(callFunc fn b).run P w = .ok (.enter fn b) w) (h : xs.map a.eval = b) :
    (execOp a.eval ⟨dst,.call { callee:=.value (.func fn),args:=xs,argTypes:=c },ty,ps,af,g⟩).run P w = .ok (.enter fn b) w:=by
  have e : execOp a.eval ⟨dst,.call { callee:=.value (.func fn),args:=xs,argTypes:=c },ty,ps,af,g⟩ = callFunc fn (#[] ++ xs.map a.eval ++ #[]):=rfl;rw [e,h,f]
  simp
theorem L.call (f : Fr n a l) (hw : Region.wanted o (yielded ops a.tmps) = true) (k : o.dst = some d) (m : d < n) {fn : Nat} {b : Array Value} (h : (execOp a.eval o).run P w = .ok (.enter fn b) w)
    {R : Ending → World → Prop} (j : Calls P fn b w R) (i : ∀ e w',R e w' → ∃ v,e = .returned v ∧ ∀ a',Fr n a' ((d,v) :: l) → wpList P ops Q rest a' w') : wpList P ops Q (o :: rest) a w:=
  wpList_step fun K c=>by
    rw [if_pos hw]
    unfold Oper.wp
    rw [h]
    refine Calls.mono j ?_
    intro e w' p
    obtain ⟨v,rfl,g⟩:=i e w' p
    show K (a.put o.dst v) w'
    rw [k]
    exact c _ _ (g _ (f.put d v m))
theorem Fr.split {G : Prop} (f : Fr n a l) (i : Nat) {b : Bool} (h : look l i = some (.bool b)) (g : b = true → Fr n a ((i,.bool true) :: l) → G) (c : b = false → Fr n a ((i,.bool false) :: l) → G) : G:=by
  cases hb : b
  · exact c hb (f.as h (by rw [hb]))
  · exact g hb (f.as h (by rw [hb]))
theorem Fr.sD {G : Prop} (f : Fr n a l) (i : Nat) {p : Prop} {b : Decidable p} (h : look l i = some (.bool (@decide p b))) (g : p → Fr n a ((i,.bool true) :: l) → G) (c : ¬ p → Fr n a ((i,.bool false) :: l) → G) : G:=
  f.split i h (fun e=>g (of_decide_eq_true e)) (fun e=>c (of_decide_eq_false e))
theorem Fr.sB {G : Prop} (f : Fr n a l) (i : Nat) {b : Bool} (h : look l i = some (.bool (!b))) (g : b = false → Fr n a ((i,.bool true) :: l) → G) (c : b = true → Fr n a ((i,.bool false) :: l) → G) : G:=
  f.split i h (fun e=>g (by simpa using e)) (fun e=>c (by simpa using e))
theorem Fr.sN {G : Prop} (f : Fr n a l) (i : Nat) {p : Prop} {b : Decidable p} (h : look l i = some (.bool (!@decide p b))) (g : ¬ p → Fr n a ((i,.bool true) :: l) → G) (c : p → Fr n a ((i,.bool false) :: l) → G) : G:=
  f.split i h (fun e=>g (by simpa using e)) (fun e=>c (by simpa using e))
end
section
variable {P : Program} {ops : Array Oper} {Q : Exit → Act → World → Prop} {md : Region.Mode} {S : World → Prop} {a : Act} {w w' : World} {n d : Nat} {l : FL} {v : Value} {o : Oper}
theorem R.begin {id : Nat} (b : P.follows .mixedOrders = true) (c : S (w.drewN 1))
    (h : wpAnyH P .any ops Q S ops.size (Array.replicate ops.size false) a (w.drewN 1)) : (Code.region id ops true).wp P Q a w:=wp_region_held b h
theorem R.take (i : Nat) {fuel : Nat} {b : Array Bool} (f : Fr n a l) (hi : ops[i]? = some o) (g : o.dst = some d) (q : d < n) (s : Region.noSelect ops = true) (p : Region.free md ops b i = true)
    (r : (Region.ready md ops b).contains i = true) (k : ∀ c (a : Act) (u : Value) w,Q (.panic c) (a.put (some d) u) w → Q (.panic c) a w) (hw : Region.wanted o (yielded ops a.tmps) = true) (m : S w)
    (t : ∀ w,S w → (execOp a.eval o).run P w = .ok (.value v) w)
    (j : ∀ a',Fr n a' ((d,v) :: l) → wpAnyH P md ops Q S fuel (b.setIfInBounds i true) a' w) : wpAnyH P md ops Q S (fuel + 1) b a w:=by
  refine wpAnyH_take hi s p r (v:=v) (fun c a w h=>k c a v w (by rwa [g] at h)) (.inl ⟨hw,t⟩) m ?_;rw [g];exact j _ (f.put d v q)
theorem R.takeSkip (i : Nat) {fuel : Nat} {b : Array Bool} (f : Fr n a l) (hi : ops[i]? = some o) (g : o.dst = some d) (q : d < n) (s : Region.noSelect ops = true) (p : Region.free md ops b i = true)
    (r : (Region.ready md ops b).contains i = true) (k : ∀ c (a : Act) (u : Value) w,Q (.panic c) (a.put (some d) u) w → Q (.panic c) a w) (hw : Region.wanted o (yielded ops a.tmps) = false) (m : S w)
    (j : ∀ a',Fr n a' ((d,undef) :: l) → wpAnyH P md ops Q S fuel (b.setIfInBounds i true) a' w) : wpAnyH P md ops Q S (fuel + 1) b a w:=by
  refine wpAnyH_take hi s p r (v:=undef) (fun c a w h=>k c a undef w (by rwa [g] at h)) (.inr ⟨hw,rfl⟩) m ?_;rw [g];exact j _ (f.put d undef q)
theorem R.act (i : Nat) {fuel : Nat} {b : Array Bool} (f : Fr n a l) (hi : ops[i]? = some o) (k : o.dst = none) (m : Region.ready md ops b = [i]) (hw : Region.wanted o (yielded ops a.tmps) = true)
    (p : (execOp a.eval o).run P w = .ok .skip w') (h : S w') (g : ∀ a',Fr n a' l → wpAnyH P md ops Q S fuel (b.setIfInBounds i true) a' w') : wpAnyH P md ops Q S (fuel + 1) b a w:=by
  refine wpAnyH_all m (by simp) ?_;intro j c;simp only [List.mem_singleton] at c;subst c;unfold wpOp;simp only [hi,hw,if_true];refine .inl ?_;unfold Oper.wp;rw [p];show S w' ∧ wpAnyH P md ops Q S fuel (b.setIfInBounds j true) (a.put o.dst undef) w';rw [k];exact ⟨h,g _ f⟩
theorem R.call (i : Nat) {fuel : Nat} {b : Array Bool} (f : Fr n a l) (hi : ops[i]? = some o) (s : o.dst = some d) (t : d < n) (g : Region.ready md ops b = [i]) (hw : Region.wanted o (yielded ops a.tmps) = true)
    {fn : Nat} {c : Array Value} (h : (execOp a.eval o).run P w = .ok (.enter fn c) w) {R : Ending → World → Prop} (r : Calls P fn c w R)
    (p : ∀ e w',R e w' → ∃ v,e = .returned v ∧ S w' ∧ ∀ a',Fr n a' ((d,v) :: l) → wpAnyH P md ops Q S fuel (b.setIfInBounds i true) a' w') : wpAnyH P md ops Q S (fuel + 1) b a w:=by
  refine wpAnyH_all g (by simp) ?_;intro j k;simp only [List.mem_singleton] at k;subst k;unfold wpOp;simp only [hi,hw,if_true];refine .inl ?_;unfold Oper.wp;rw [h];refine Calls.mono r ?_;intro e w' g;obtain ⟨v,rfl,q,m⟩:=p e w' g;show S w' ∧ wpAnyH P md ops Q S fuel (b.setIfInBounds j true) (a.put o.dst v) w';rw [s];exact ⟨q,m _ (f.put d v t)⟩
theorem R.done {fuel : Nat} {b : Array Bool} (c : Region.ready md ops b = []) (h : Q .normal a w) : wpAnyH P md ops Q S fuel b a w:=wpAnyH_done c h fuel
end
section
variable {P : Program} {Q : Exit → Act → World → Prop} {a : Act} {w : World} {n : Nat} {l : FL}
theorem C.region {id : Nat} {b : List Oper} (h : wpList P b.toArray Q b a w) : (Code.region id b.toArray false).wp P Q a w:=wp_region_lit h
theorem C.cT (f : Fr n a l) {c : Operand} {x y : Code} (b : Ae l c = some (.bool true)) (h : x.wp P Q a w) : (Code.cond c x y).wp P Q a w:=wp_cond_true (f.ev b) h
theorem C.cF (f : Fr n a l) {c : Operand} {x y : Code} (b : Ae l c = some (.bool false)) (h : y.wp P Q a w) : (Code.cond c x y).wp P Q a w:=wp_cond_false (f.ev b) h
theorem C.cut {x y : Code} (J : Act → World → Prop) (h : x.wp P (Exit.then J Q) a w) (b : ∀ a w,J a w → y.wp P Q a w) : (Code.seq x y).wp P Q a w:=
  wp_seq (Code.wp_mono (fun e a w q=>by cases e <;> first | exact b _ _ q | exact q) h)
theorem C.loop (I : Nat → Act → World → Prop) (n₀ : Nat) {c : Code} (h₀ : I n₀ a w)
    (b : ∀ n a w,I n a w → ∀ K : Act → World → Prop,(∀ a w k,k < n → I k a w → K a w) → c.wp P (Exit.then K Q) a w) : (Code.loop c).wp P Q a w:=
  wp_loop_ghost I n₀ h₀ fun n a w h=>b n a w h _ fun a w k f d=>⟨k,f,d⟩
theorem C.enter {f : Nat} {fn : Func} {c : Code} {b : Array Value} {R : Ending → World → Prop} {n : Nat} (g : P.funcs[f]? = some fn) (d : fn.body = some c) (i : fn.ntmps = n) (j : Nat.ble b.size n = true)
    (h : ∀ a,Fr n a (b.toList.zipIdx.map fun p=>(p.2,p.1)) → c.wp P (bodyPost P fn R) a w) : Calls P f b w R:=by
  refine calls_of_wp g d (h _ ?_);rw [i];exact Fr.start b n (Nat.le_of_ble_eq_true j)
theorem C.ret {fn : Func} {R : Ending → World → Prop} (f : Fr n a l) {t : Tmp} (b : fn.results = #[.tmp t]) {v : Value} (c : look l t = some v) (h : R (.returned v) w) : bodyPost P fn R .ret a w:=
  bodyPost_ret (by rw [results_tmp b,f.get c]) f.defers h
theorem C.ret0 {fn : Func} {R : Ending → World → Prop} (f : Fr n a l) (b : fn.results = #[]) (h : R (.returned (.tuple #[])) w) : bodyPost P fn R .ret a w:=
  bodyPost_ret (by rw [results_none b]) f.defers h
theorem C.end0 {fn : Func} {R : Ending → World → Prop} (f : Fr n a l) (b : fn.results = #[]) (h : R (.returned (.tuple #[])) w) : bodyPost P fn R .normal a w:=
  bodyPost_end (by rw [results_none b]) f.defers h
theorem C.ret2 {fn : Func} {R : Ending → World → Prop} (f : Fr n a l) {t u : Tmp} (c : fn.results = #[.tmp t,.tmp u]) {v v' : Value} (d : look l t = some v) (b : look l u = some v') (h : R (.returned (.tuple #[v,v'])) w) : bodyPost P fn R .ret a w:=
  bodyPost_ret (by rw [results_tmp2 c,f.get d,f.get b]) f.defers h
end
end Go.Hub
namespace Go.Hub
open Go.RowKit
theorem x9b {α : Type} [BEq α] [LawfulBEq α] [DecidableEq α] (a b : α) : (a == b) = decide (a = b):=by by_cases h : a = b <;> simp [h]
section
variable {P : Program} {a : Act} {w : World} {n : Nat} {l : FL} {dst : Option Nat} {ty : TypeId} {ps : String} {af : Array Edge} {g : Option (Nat × Bool)} {x y z : Operand} {t u : TypeId}
theorem E.move (f : Fr n a l) {v : Value} (b : Ae l x = some v) : (execOp a.eval ⟨dst,.move x,ty,ps,af,g⟩).run P w = .ok (.value v) w:=by simp [execOp,f.ev b]
theorem E.assign (f : Fr n a l) {v : Value} (b : Ae l x = some v) : (execOp a.eval ⟨dst,.assign x,ty,ps,af,g⟩).run P w = .ok (.value v) w:=by simp [execOp,f.ev b]
theorem E.pickT (f : Fr n a l) {v : Value} (b : Ae l x = some (.bool true)) (c : Ae l y = some v) : (execOp a.eval ⟨dst,.pick x y z,ty,ps,af,g⟩).run P w = .ok (.value v) w:=by simp [execOp,f.ev b,f.ev c,asBool]
theorem E.pickF (f : Fr n a l) {v : Value} (b : Ae l x = some (.bool false)) (c : Ae l z = some v) : (execOp a.eval ⟨dst,.pick x y z,ty,ps,af,g⟩).run P w = .ok (.value v) w:=by simp [execOp,f.ev b,f.ev c,asBool]
theorem E.add (f : Fr n a l) {k : IntKind} {i j r : Int} (c : Ae l x = some (.int k i)) (d : Ae l y = some (.int k j)) (b : k.wrap (i + j) = r) : (execOp a.eval ⟨dst,.binOp .add t x y u,ty,ps,af,g⟩).run P w = .ok (.value (.int k r)) w:=by
  simp [execOp,f.ev c,f.ev d,eqGuard,binOp,Op.intArith,b]
theorem E.sub (f : Fr n a l) {k : IntKind} {i j r : Int} (c : Ae l x = some (.int k i)) (d : Ae l y = some (.int k j)) (b : k.wrap (i - j) = r) : (execOp a.eval ⟨dst,.binOp .sub t x y u,ty,ps,af,g⟩).run P w = .ok (.value (.int k r)) w:=by
  simp [execOp,f.ev c,f.ev d,eqGuard,binOp,Op.intArith,b]
theorem E.mul (f : Fr n a l) {k : IntKind} {i j r : Int} (c : Ae l x = some (.int k i)) (d : Ae l y = some (.int k j)) (b : k.wrap (i * j) = r) : (execOp a.eval ⟨dst,.binOp .mul t x y u,ty,ps,af,g⟩).run P w = .ok (.value (.int k r)) w:=by
  simp [execOp,f.ev c,f.ev d,eqGuard,binOp,Op.intArith,b]
theorem E.rem (f : Fr n a l) {k : IntKind} {i j r : Int} (d : Ae l x = some (.int k i)) (h : Ae l y = some (.int k j)) (b : j ≠ 0) (c : i.tmod j = r) : (execOp a.eval ⟨dst,.binOp .rem t x y u,ty,ps,af,g⟩).run P w = .ok (.value (.int k r)) w:=by
  simp [execOp,f.ev d,f.ev h,eqGuard,binOp,Op.intDiv,b,c]
theorem E.eql (f : Fr n a l) {k : IntKind} {i j : Int} (b : Ae l x = some (.int k i)) (c : Ae l y = some (.int k j)) : (execOp a.eval ⟨dst,.binOp .eql t x y u,ty,ps,af,g⟩).run P w = .ok (.value (.bool (decide (i = j)))) w:=by
  simp [execOp,f.ev b,f.ev c,eqGuard,binOp,Op.intCmp,x9b]
theorem E.neq (f : Fr n a l) {k : IntKind} {i j : Int} (b : Ae l x = some (.int k i)) (c : Ae l y = some (.int k j)) : (execOp a.eval ⟨dst,.binOp .neq t x y u,ty,ps,af,g⟩).run P w = .ok (.value (.bool (!decide (i = j)))) w:=by
  simp [execOp,f.ev b,f.ev c,eqGuard,binOp,Op.intCmp,bne,x9b]
theorem E.lss (f : Fr n a l) {k : IntKind} {i j : Int} (b : Ae l x = some (.int k i)) (c : Ae l y = some (.int k j)) : (execOp a.eval ⟨dst,.binOp .lss t x y u,ty,ps,af,g⟩).run P w = .ok (.value (.bool (decide (i < j)))) w:=by
  simp [execOp,f.ev b,f.ev c,eqGuard,binOp,Op.intCmp]
theorem E.leq (f : Fr n a l) {k : IntKind} {i j : Int} (b : Ae l x = some (.int k i)) (c : Ae l y = some (.int k j)) : (execOp a.eval ⟨dst,.binOp .leq t x y u,ty,ps,af,g⟩).run P w = .ok (.value (.bool (decide (i ≤ j)))) w:=by
  simp [execOp,f.ev b,f.ev c,eqGuard,binOp,Op.intCmp]
theorem E.gtr (f : Fr n a l) {k : IntKind} {i j : Int} (b : Ae l x = some (.int k i)) (c : Ae l y = some (.int k j)) : (execOp a.eval ⟨dst,.binOp .gtr t x y u,ty,ps,af,g⟩).run P w = .ok (.value (.bool (decide (j < i)))) w:=by
  simp [execOp,f.ev b,f.ev c,eqGuard,binOp,Op.intCmp]
theorem E.geq (f : Fr n a l) {k : IntKind} {i j : Int} (b : Ae l x = some (.int k i)) (c : Ae l y = some (.int k j)) : (execOp a.eval ⟨dst,.binOp .geq t x y u,ty,ps,af,g⟩).run P w = .ok (.value (.bool (decide (j ≤ i)))) w:=by
  simp [execOp,f.ev b,f.ev c,eqGuard,binOp,Op.intCmp]
theorem G8 {s r : ByteArray} : s.toList = r.toList ↔ s = r:=by
  rw [ByteArray.toList_eq,ByteArray.toList_eq]
  constructor
  · intro h
    exact ByteArray.ext (Array.toList_inj.mp h)
  · intro h; rw [h]
theorem E.eqlS (f : Fr n a l) {s r : ByteArray} (b : Ae l x = some (.string s)) (c : Ae l y = some (.string r)) : (execOp a.eval ⟨dst,.binOp .eql t x y u,ty,ps,af,g⟩).run P w = .ok (.value (.bool (decide (s = r)))) w:=by
  simp [execOp,f.ev b,f.ev c,eqGuard,binOp,Op.stringOp,x9b,G8]
theorem E.neqS (f : Fr n a l) {s r : ByteArray} (b : Ae l x = some (.string s)) (c : Ae l y = some (.string r)) : (execOp a.eval ⟨dst,.binOp .neq t x y u,ty,ps,af,g⟩).run P w = .ok (.value (.bool (!decide (s = r)))) w:=by
  simp [execOp,f.ev b,f.ev c,eqGuard,binOp,Op.stringOp,x9b,G8]
theorem E.lssS (f : Fr n a l) {s r : ByteArray} (b : Ae l x = some (.string s)) (c : Ae l y = some (.string r)) : (execOp a.eval ⟨dst,.binOp .lss t x y u,ty,ps,af,g⟩).run P w = .ok (.value (.bool (Op.bytesLess s.toList r.toList))) w:=by
  simp [execOp,f.ev b,f.ev c,eqGuard,binOp,Op.stringOp]
theorem E.addS (f : Fr n a l) {s r : ByteArray} (b : Ae l x = some (.string s)) (c : Ae l y = some (.string r)) (d : s.size + r.size ≤ 9223372036854775807) : (execOp a.eval ⟨dst,.binOp .add t x y u,ty,ps,af,g⟩).run P w = .ok (.value (.string (s ++ r))) w:=by
  have h : ¬ (((s.size + r.size : Nat) : Int) > IntKind.i64.max):=by
    have : IntKind.i64.max = 9223372036854775807:=by decide
    rw [this]; omega
  simp only [execOp,f.ev b,f.ev c,eqGuard,binOp,Op.stringOp];simp only [h,if_false]
  rfl
theorem E.eqlB (f : Fr n a l) {b c : Bool} (d : P.underlying t = some .bool) (h : Ae l x = some (.bool b)) (i : Ae l y = some (.bool c)) : (execOp a.eval ⟨dst,.binOp .eql t x y u,ty,ps,af,g⟩).run P w = .ok (.value (.bool (b == c))) w:=by
  simp [execOp,f.ev h,f.ev i,eqGuard,binOp,Op.equal,Op.maxDepth,run_equalIn_bool' w _ t b c d]
theorem E.eqlV (f : Fr n a l) {v v' : Value} {b : Bool} (c : Ae l x = some v) (d : Ae l y = some v') (h : ∀ w,(do eqGuard .eql t x y v v'; binOp .eql t v v' : Sem Value).run P w = .ok (.bool b) w) : (execOp a.eval ⟨dst,.binOp .eql t x y u,ty,ps,af,g⟩).run P w = .ok (.value (.bool b)) w:=by
  have:=h w;simp only [execOp,f.ev c,f.ev d];rw [Sem.run_bind,this]
  rfl
theorem E.neqV (f : Fr n a l) {v v' : Value} {b : Bool} (c : Ae l x = some v) (d : Ae l y = some v') (h : ∀ w,(do eqGuard .neq t x y v v'; binOp .neq t v v' : Sem Value).run P w = .ok (.bool b) w) : (execOp a.eval ⟨dst,.binOp .neq t x y u,ty,ps,af,g⟩).run P w = .ok (.value (.bool b)) w:=by
  have:=h w;simp only [execOp,f.ev c,f.ev d];rw [Sem.run_bind,this]
  rfl
theorem E.not (f : Fr n a l) {b : Bool} (c : Ae l x = some (.bool b)) : (execOp a.eval ⟨dst,.unOp .not t x,ty,ps,af,g⟩).run P w = .ok (.value (.bool (!b))) w:=by simp [execOp,f.ev c,Op.unary]
theorem E.conv (f : Fr n a l) {k b : IntKind} {i r : Int} (d : P.underlying t = some (.int k)) (h : P.underlying u = some (.int b)) (j : Ae l x = some (.int k i)) (c : b.wrap i = r) : (execOp a.eval ⟨dst,.convert t u x,ty,ps,af,g⟩).run P w = .ok (.value (.int b r)) w:=by
  simp [execOp,f.ev j,convert,run_underlying d,run_underlying h,Conv.intToInt,c]
theorem E.convV (f : Fr n a l) {v v' : Value} {w' : World} (b : Ae l x = some v) (h : (convert t u v).run P w = .ok v' w') : (execOp a.eval ⟨dst,.convert t u x,ty,ps,af,g⟩).run P w = .ok (.value v') w':=by
  simp [execOp,f.ev b,h]
theorem E.field (f : Fr n a l) {cs : Array Value} {h : Array Field} {i : Nat} {b : Field} {d : TypeDesc} {v : Value} (m : P.underlying t = some (.struct h)) (p : Ae l x = some (.agg cs)) (hi : h[i]? = some b)
    (j : P.underlying b.type = some d) (k : d.isRow = false) (o : cs[b.offset]? = some v) : (execOp a.eval ⟨dst,.field t x i,ty,ps,af,g⟩).run P w = .ok (.value v) w:=by
  have c : (isAgg b.type).run P w = .ok false w:=by
    unfold isAgg;rw [Sem.run_bind,run_underlying j w]
    cases d <;> simp_all [TypeDesc.isRow]
  simp [execOp,f.ev p,Instr.field,run_underlying m,hi,part,asAgg,c,o]
theorem E.extract (f : Fr n a l) {b : Array Value} {i : Nat} {v : Value} (c : Ae l x = some (.tuple b)) (hi : b[i]? = some v) : (execOp a.eval ⟨dst,.extract x i,ty,ps,af,g⟩).run P w = .ok (.value v) w:=by
  simp [execOp,f.ev c,Instr.extract,hi]
theorem E.makeInterface (f : Fr n a l) {v : Value} (b : P.concrete t = true) (c : Ae l x = some v) : (execOp a.eval ⟨dst,.makeInterface t x,ty,ps,af,g⟩).run P w = .ok (.value (.iface t v)) w:=by
  simp [execOp,f.ev c,run_makeInterface w t v b]
theorem E.nilCheck (f : Fr n a l) {ad : Addr} (b : Ae l x = some (.pointer (some ad))) : (execOp a.eval ⟨dst,.nilCheck x,ty,ps,af,g⟩).run P w = .ok (.value (.pointer (some ad))) w:=by
  simp [execOp,f.ev b]
theorem E.build (f : Fr n a l) {b : Array (Nat × Operand)} {d : List (Nat × Value)} {cs : Array Value} (k : (b.map fun p=>(p.1,a.eval p.2)).toList = d) (h : P.built t d = some cs) : (execOp a.eval ⟨dst,.build t b,ty,ps,af,g⟩).run P w = .ok (.value (.agg cs)) w:=by
  have c : (b.map fun (i,x)=>(i,a.eval x)).toList = d:=k;have j:=run_build (P:=P) w t (b.map fun (i,x)=>(i,a.eval x)) cs (by rw [c]; exact h);simp only [execOp];rw [Sem.run_bind,j]
  rfl
theorem E.lenS (f : Fr n a l) {s : ByteArray} (b : P.underlying t = some .string) (c : Ae l x = some (.string s)) : (execOp a.eval ⟨dst,.call { callee:=.builtin .len,args:=#[x],argTypes:=#[t] },ty,ps,af,g⟩).run P w = .ok (.value (.int .i64 s.size)) w:=by
  simp [execOp,resolve,invoke,builtin,f.ev c,Builtin.len_,run_underlying b,goInt]
theorem E.lenL (f : Fr n a l) {e : TypeId} {A : Option Addr} {m c : Nat} (b : P.underlying t = some (.slice e)) (d : Ae l x = some (.slice A m c)) : (execOp a.eval ⟨dst,.call { callee:=.builtin .len,args:=#[x],argTypes:=#[t] },ty,ps,af,g⟩).run P w = .ok (.value (.int .i64 m)) w:=by
  simp [execOp,resolve,invoke,builtin,f.ev d,Builtin.len_,run_underlying b,goInt]
theorem E.min (f : Fr n a l) {k : IntKind} {i j : Int} (b : Ae l x = some (.int k i)) (c : Ae l y = some (.int k j)) : (execOp a.eval ⟨dst,.call { callee:=.builtin .min,args:=#[x,y],argTypes:=#[t,u] },ty,ps,af,g⟩).run P w = .ok (.value (.int k (Min.min i j))) w:=by
  have e : Min.min i j = if j < i then j else i:=by rw [Int.min_def]; split <;> split <;> omega
  simp [execOp,resolve,invoke,builtin,f.ev b,f.ev c,Builtin.min_,Builtin.min2,e]
theorem E.max (f : Fr n a l) {k : IntKind} {i j : Int} (b : Ae l x = some (.int k i)) (c : Ae l y = some (.int k j)) : (execOp a.eval ⟨dst,.call { callee:=.builtin .max,args:=#[x,y],argTypes:=#[t,u] },ty,ps,af,g⟩).run P w = .ok (.value (.int k (Max.max i j))) w:=by
  have e : Max.max i j = if i < j then j else i:=by rw [Int.max_def]; split <;> split <;> omega
  simp [execOp,resolve,invoke,builtin,f.ev b,f.ev c,Builtin.max_,Builtin.max2,e]
theorem K6 (b o k : Nat) : (⟨b,o,none⟩ : Addr).add k = ⟨b,o + k,none⟩:=Addr.add_mid b o k
theorem E.fieldAddr (f : Fr n a l) {h : Array Field} {i : Nat} {c : Field} {b o s : Nat} (k : P.underlying t = some (.struct h)) (m : Ae l x = some (.pointer (some ⟨b, o, none⟩))) (hi : h[i]? = some c)
    (j : (P.info? c.type).map (·.size) = some (s + 1)) : (execOp a.eval ⟨dst,.fieldAddr t x i,ty,ps,af,g⟩).run P w = .ok (.value (.pointer (some ⟨b,o + c.offset,none⟩))) w:=by
  cases hq : P.info? c.type with
  | none=>simp [hq] at j
  | some i'=>
    have d : i'.size = s + 1:=by simpa [hq] using j
    simp [execOp,f.ev m,Instr.fieldAt,run_underlying k,hi,Instr.sureAddr,fieldPlace,sizeOf,typeInfo,hq,d,K6]
theorem E.indexAddr (f : Fr n a l) {e : TypeId} {b o m c s : Nat} {k : IntKind} {i : Int} (q : P.underlying t = some (.slice e)) (h : (P.info? e).map (·.size) = some s) (r : Ae l x = some (.slice (some ⟨b, o, none⟩) m c)) (v : Ae l y = some (.int k i))
    (j : 0 ≤ i) (p : i < m) : (execOp a.eval ⟨dst,.indexAddr t x y,ty,ps,af,g⟩).run P w = .ok (.value (.pointer (some ⟨b,o + i.toNat * s,none⟩))) w:=by
  cases hq : P.info? e with
  | none=>simp [hq] at h
  | some i'=>
    have d : i'.size = s:=by simpa [hq] using h
    simp [execOp,f.ev r,f.ev v,Instr.indexAt,asIntOf,run_underlying q,j,p,sizeOf,typeInfo,hq,d,K6]
theorem E.load (f : Fr n a l) {ad : Addr} {v : Value} {d : TypeDesc} (h : P.underlying t = some d) (j : d.isRow = false) (i : Ae l x = some (.pointer (some ad))) (c : w.cell? ad = some v) : (execOp a.eval ⟨dst,.load t x,ty,ps,af,g⟩).run P w = .ok (.value v) w:=by
  have b : (isAgg t).run P w = .ok false w:=by
    unfold isAgg;rw [Sem.run_bind,run_underlying h w]
    cases d <;> simp_all [TypeDesc.isRow]
  simp [execOp,f.ev i,Instr.loadAt,Instr.sureAddr,loadVar,b,load,Sem.run,c]
theorem E.loadR (f : Fr n a l) {b o s : Nat} {cs : List Value} {d : TypeDesc} (j : P.underlying t = some d) (h : d.isRow = true) (hi : (P.info? t).map (·.size) = some s) (k : Ae l x = some (.pointer (some ⟨b, o, none⟩))) (c : w.rangeAt b o cs) (i : cs.length = s) :
    (execOp a.eval ⟨dst,.load t x,ty,ps,af,g⟩).run P w = .ok (.value (.agg cs.toArray)) w:=by
  subst i;simp only [execOp,f.ev k];rw [Sem.run_bind,run_loadAt_mid w b o t cs d c j h hi]
  rfl
theorem E.store (f : Fr n a l) {b o : Nat} {v h : Value} (hi : (P.info? t).map (·.size) = some 1) (s : Ae l x = some (.pointer (some ⟨b, o, none⟩))) (hy : Ae l y = some v) (k : v.oneCell' = true) (p : w.cell? ⟨b, o, none⟩ = some h) (q : w.frozen? ⟨b, o, none⟩ = false) :
    (execOp a.eval ⟨dst,.store t x y,ty,ps,af,g⟩).run P w = .ok .skip (w.setCell ⟨b,o,none⟩ v):=by
  have d : v.cells = #[v]:=by cases v <;> first | rfl | cases k
  have:=run_storeCells_cells (P:=P) b o [v] 0 w (fun j c=>by simp at c; subst c; simp [p]) (fun j c=>by simp at c; subst c; simpa using q) (fun u m=>by simp at m; subst m; exact k)
  cases hq : P.info? t with
  | none=>simp [hq] at hi
  | some i=>
    have r : i.size = 1:=by simpa [hq] using hi
    simp only [execOp,f.ev s,f.ev hy];simp only [Nat.add_zero,World.setCells] at this;simp [Instr.storeAt,Instr.sureAddr,storeVar,sizeOf,typeInfo,hq,d,r,this]
theorem E.storeR (f : Fr n a l) {b o : Nat} {cs : Array Value} (hi : (P.info? t).map (·.size) = some cs.size) (h : Ae l x = some (.pointer (some ⟨b, o, none⟩))) (i : Ae l y = some (.agg cs)) (c : cs.all (·.oneCell') = true) (d : w.there b o cs.size) :
    (execOp a.eval ⟨dst,.store t x y,ty,ps,af,g⟩).run P w = .ok .skip (w.setCells b o cs.toList):=by
  simp only [execOp,f.ev h,f.ev i];rw [Sem.run_bind,run_storeAt_mid w b o t cs d hi c]
  rfl
theorem E.alloc (f : Fr n a l) {z : Value} (b : ∀ w,(zeroValue t).run P w = .ok z w) : (execOp a.eval ⟨dst,.alloc t,ty,ps,af,g⟩).run P w = .ok (.value (.pointer (some ⟨w.heap.size,0,none⟩))) (w.alloc (.cells z.cells t)):=by
  simp only [execOp,Instr.alloc];rw [Sem.run_bind,Sem.run_bind,b w]
  rfl
theorem E.box (f : Fr n a l) {v : Value} (b : Ae l x = some v) : (execOp a.eval ⟨dst,.box t x,ty,ps,af,g⟩).run P w = .ok (.value (.pointer (some ⟨w.heap.size,0,none⟩))) (w.alloc (.cells v.cells t)):=by
  simp only [execOp,f.ev b]
  rfl
theorem E.slS (f : Fr n a l) {s : ByteArray} {i j : Int} {p q : IntKind} (h : P.underlying t = some .string) (k : Ae l x = some (.string s)) (m : Ae l y = some (.int p i)) (o : Ae l z = some (.int q j)) (c : 0 ≤ i) (r : i ≤ j) (d : j ≤ s.size) :
    (execOp a.eval ⟨dst,.slice t x (some y) (some z) none,ty,ps,af,g⟩).run P w = .ok (.value (.string (s.extract i.toNat j.toNat))) w:=by
  have b : i ≤ ((j.toNat : Nat) : Int):=by omega
  simp [execOp,f.ev k,f.ev m,f.ev o,Instr.sliceAt,Instr.slice,Instr.sliceBounds,Instr.sliceBound,asIntOf,run_underlying h,c,d,b,show 0 ≤ j by omega];intro v;omega
theorem E.slL (f : Fr n a l) {e : TypeId} {A : Option Addr} {m c s : Nat} {i j : Int} {ki kj : IntKind} (p : P.underlying t = some (.slice e)) (d : (P.info? e).map (·.size) = some s) (q : Ae l x = some (.slice A m c)) (r : Ae l y = some (.int ki i)) (v : Ae l z = some (.int kj j)) (k : 0 ≤ i) (h1 : i ≤ j) (o : j ≤ c) :
    (execOp a.eval ⟨dst,.slice t x (some y) (some z) none,ty,ps,af,g⟩).run P w = .ok (.value (.slice (if c = i.toNat then A else A.map (·.add (i.toNat * s))) (j.toNat - i.toNat) (c - i.toNat))) w:=by
  have h : i ≤ ((j.toNat : Nat) : Int):=by omega
  cases hq : P.info? e with
  | none=>simp [hq] at d
  | some i'=>
    have b : i'.size = s:=by simpa [hq] using d
    simp [execOp,f.ev q,f.ev r,f.ev v,Instr.sliceAt,Instr.slice,Instr.sliceBounds,Instr.sliceBound,asIntOf,run_underlying p,k,o,h,show 0 ≤ j by omega,sizeOf,typeInfo,hq,b];intro hh;omega
theorem E.slLlo (f : Fr n a l) {e : TypeId} {A : Option Addr} {m c s : Nat} {i : Int} {q : IntKind} (k : P.underlying t = some (.slice e)) (d : (P.info? e).map (·.size) = some s) (o : Ae l x = some (.slice A m c)) (p : Ae l y = some (.int q i)) (h : 0 ≤ i) (j : i ≤ m) :
    (execOp a.eval ⟨dst,.slice t x (some y) none none,ty,ps,af,g⟩).run P w = .ok (.value (.slice (if c = i.toNat then A else A.map (·.add (i.toNat * s))) (m - i.toNat) (c - i.toNat))) w:=by
  cases hq : P.info? e with
  | none=>simp [hq] at d
  | some i'=>
    have b : i'.size = s:=by simpa [hq] using d
    simp [execOp,f.ev o,f.ev p,Instr.sliceAt,Instr.slice,Instr.sliceBounds,Instr.sliceBound,asIntOf,run_underlying k,h,j,sizeOf,typeInfo,hq,b]
theorem E.slLhi (f : Fr n a l) {e : TypeId} {A : Option Addr} {m c s : Nat} {i : Int} {ki : IntKind} (q : P.underlying t = some (.slice e)) (h : (P.info? e).map (·.size) = some s) (r : Ae l x = some (.slice A m c)) (v : Ae l y = some (.int ki i)) (k : 0 ≤ i) (p : i ≤ c) :
    (execOp a.eval ⟨dst,.slice t x none (some y) none,ty,ps,af,g⟩).run P w = .ok (.value (.slice A i.toNat c)) w:=by
  cases hq : P.info? e with
  | none=>simp [hq] at h
  | some i'=>
    have d : i'.size = s:=by simpa [hq] using h
    have j : (A.map fun a=>a.add 0) = A:=by cases A with
      | none=>rfl
      | some b=>cases b with | mk b o s=>simp [Addr.add]
    simp [execOp,f.ev r,f.ev v,Instr.sliceAt,Instr.slice,Instr.sliceBounds,Instr.sliceBound,asIntOf,run_underlying q,k,p,sizeOf,typeInfo,hq,d,j]
theorem E.indexS (f : Fr n a l) {s : ByteArray} {i : Int} {m : IntKind} {b : UInt8} (h : P.underlying t = some .string) (j : Ae l x = some (.string s)) (k : Ae l y = some (.int m i)) (c : 0 ≤ i) (d : s[i.toNat]? = some b) :
    (execOp a.eval ⟨dst,.index t x y,ty,ps,af,g⟩).run P w = .ok (.value (.int .u8 b.toNat)) w:=by
  simp [execOp,f.ev j,f.ev k,Instr.index,asIntOf,run_underlying h,c,d]
end
section
variable {a : Act} {n : Nat} {l : FL}
theorem y6d (f : Fr n a l) : (#[] : Array Operand).map a.eval = #[]:=by simp
theorem y6e (f : Fr n a l) {c : Operand} {b : Value} (d : Ae l c = some b) : #[c].map a.eval = #[b]:=by simp [f.ev d]
theorem y6f (f : Fr n a l) {d g : Operand} {b c : Value} (h : Ae l d = some b) (i : Ae l g = some c) : #[d,g].map a.eval = #[b,c]:=by simp [f.ev h,f.ev i]
theorem y6g (f : Fr n a l) {g h i : Operand} {b c d : Value} (j : Ae l g = some b) (k : Ae l h = some c) (m : Ae l i = some d) : #[g,h,i].map a.eval = #[b,c,d]:=by simp [f.ev j,f.ev k,f.ev m]
theorem Q6 (f : Fr n a l) {h i j k : Operand} {b c d g : Value} (m : Ae l h = some b) (o : Ae l i = some c) (p : Ae l j = some d) (q : Ae l k = some g) : #[h,i,j,k].map a.eval = #[b,c,d,g]:=by simp [f.ev m,f.ev o,f.ev p,f.ev q]
theorem Yh (f : Fr n a l) {i j k m o : Operand} {b c d g h : Value} (p : Ae l i = some b) (q : Ae l j = some c) (r : Ae l k = some d) (s : Ae l m = some g) (t : Ae l o = some h) : #[i,j,k,m,o].map a.eval = #[b,c,d,g,h]:=by simp [f.ev p,f.ev q,f.ev r,f.ev s,f.ev t]
theorem y6h (f : Fr n a l) {j k m o p q : Operand} {b c d g h i : Value} (r : Ae l j = some b) (s : Ae l k = some c) (t : Ae l m = some d) (u : Ae l o = some g) (v : Ae l p = some h) (w : Ae l q = some i) : #[j,k,m,o,p,q].map a.eval = #[b,c,d,g,h,i]:=by simp [f.ev r,f.ev s,f.ev t,f.ev u,f.ev v,f.ev w]
theorem y8l (f : Fr n a l) : ((#[] : Array (Nat × Operand)).map fun p=>(p.1,a.eval p.2)).toList = []:=by simp
theorem y8m (f : Fr n a l) {b : Nat} {d : Operand} {c : Value} (g : Ae l d = some c) : (#[(b,d)].map fun (p : Nat × Operand)=>(p.1,a.eval p.2)).toList = [(b,c)]:=by simp [f.ev g]
theorem y8n (f : Fr n a l) {b c : Nat} {h i : Operand} {d g : Value} (j : Ae l h = some d) (k : Ae l i = some g) : (#[(b,h),(c,i)].map fun (p : Nat × Operand)=>(p.1,a.eval p.2)).toList = [(b,d),(c,g)]:=by simp [f.ev j,f.ev k]
theorem y8o (f : Fr n a l) {b c d : Nat} {j k m : Operand} {g h i : Value} (o : Ae l j = some g) (q : Ae l k = some h) (r : Ae l m = some i) : (#[(b,j),(c,k),(d,m)].map fun (p : Nat × Operand)=>(p.1,a.eval p.2)).toList = [(b,g),(c,h),(d,i)]:=by simp [f.ev o,f.ev q,f.ev r]
theorem y8p (f : Fr n a l) {b c d g : Nat} {m o q r : Operand} {h i j k : Value} (s : Ae l m = some h) (t : Ae l o = some i) (u : Ae l q = some j) (v : Ae l r = some k) : (#[(b,m),(c,o),(d,q),(g,r)].map fun (p : Nat × Operand)=>(p.1,a.eval p.2)).toList = [(b,h),(c,i),(d,j),(g,k)]:=by simp [f.ev s,f.ev t,f.ev u,f.ev v]
theorem y8q (f : Fr n a l) {b c d g h : Nat} {q r s t u : Operand} {i j k m o : Value} (v : Ae l q = some i) (w : Ae l r = some j) (x : Ae l s = some k) (y : Ae l t = some m) (z : Ae l u = some o) : (#[(b,q),(c,r),(d,s),(g,t),(h,u)].map fun (p : Nat × Operand)=>(p.1,a.eval p.2)).toList = [(b,i),(c,j),(d,k),(g,m),(h,o)]:=by simp [f.ev v,f.ev w,f.ev x,f.ev y,f.ev z]
theorem y8r (f : Fr n a l) {b c d g h i j : Nat} {u v w x y z x6 : Operand} {k m o q r s t : Value} (h0 : Ae l u = some k) (h1 : Ae l v = some m) (h2 : Ae l w = some o) (h3 : Ae l x = some q) (h4 : Ae l y = some r) (h5 : Ae l z = some s) (h6 : Ae l x6 = some t) : (#[(b,u),(c,v),(d,w),(g,x),(h,y),(i,z),(j,x6)].map fun (p : Nat × Operand)=>(p.1,a.eval p.2)).toList = [(b,k),(c,m),(d,o),(g,q),(h,r),(i,s),(j,t)]:=by simp [f.ev h0,f.ev h1,f.ev h2,f.ev h3,f.ev h4,f.ev h5,f.ev h6]
theorem y8d (f : Fr n a l) {b c d g h i j k m o : Nat} {x0 x1 x2 x3 x4 x5 x6 x7 x8 x9 : Operand} {q r s t u v w x y z : Value} (h0 : Ae l x0 = some q) (h1 : Ae l x1 = some r) (h2 : Ae l x2 = some s) (h3 : Ae l x3 = some t) (h4 : Ae l x4 = some u) (h5 : Ae l x5 = some v) (h6 : Ae l x6 = some w) (h7 : Ae l x7 = some x) (h8 : Ae l x8 = some y) (h9 : Ae l x9 = some z) : (#[(b,x0),(c,x1),(d,x2),(g,x3),(h,x4),(i,x5),(j,x6),(k,x7),(m,x8),(o,x9)].map fun (p : Nat × Operand)=>(p.1,a.eval p.2)).toList = [(b,q),(c,r),(d,s),(g,t),(h,u),(i,v),(j,w),(k,x),(m,y),(o,z)]:=by simp [f.ev h0,f.ev h1,f.ev h2,f.ev h3,f.ev h4,f.ev h5,f.ev h6,f.ev h7,f.ev h8,f.ev h9]
end
end Go.Hub
namespace Go.Hub
open Go.RowKit
theorem Aa {b : Array Oper} {a : Act} {dst : Option Nat} {c : Op} {ty : TypeId} {ps : String} {af : Array Edge} : Region.wanted ⟨dst,c,ty,ps,af,none⟩ (yielded b a.tmps) = true:=rfl
theorem Fr.yes {n : Nat} {a : Act} {l : FL} {c : Array Oper} (f : Fr n a l) {j d : Nat} {b : Bool} {dst : Option Nat} {i : Op} {ty : TypeId} {ps : String} {af : Array Edge} (h : (c[j]?).bind (·.dst) = some d) (g : look l d = some (.bool b)) :
    Region.wanted ⟨dst,i,ty,ps,af,some (j,b)⟩ (yielded c a.tmps) = true:=by simp [Region.wanted,f.yield h g]
theorem Fr.noT {n : Nat} {a : Act} {l : FL} {b : Array Oper} (f : Fr n a l) {j c : Nat} {dst : Option Nat} {h : Op} {ty : TypeId} {ps : String} {af : Array Edge} (g : (b[j]?).bind (·.dst) = some c) (d : look l c = some (.bool false)) :
    Region.wanted ⟨dst,h,ty,ps,af,some (j,true)⟩ (yielded b a.tmps) = false:=by simp [Region.wanted,f.yield g d]
theorem Fr.noU {n : Nat} {a : Act} {l : FL} {c : Array Oper} (f : Fr n a l) {j d : Nat} {b : Bool} {dst : Option Nat} {k : Op} {ty : TypeId} {ps : String} {af : Array Edge} (h : (c[j]?).bind (·.dst) = some d) (g : look l d = some undef) :
    Region.wanted ⟨dst,k,ty,ps,af,some (j,b)⟩ (yielded c a.tmps) = false:=by
  have i : yielded c a.tmps j = none:=by
    unfold yielded;rw [h];simp [f.slot d _ g,undef]
  simp [Region.wanted,i]
theorem Fr.noF {n : Nat} {a : Act} {l : FL} {b : Array Oper} (f : Fr n a l) {j c : Nat} {dst : Option Nat} {h : Op} {ty : TypeId} {ps : String} {af : Array Edge} (g : (b[j]?).bind (·.dst) = some c) (d : look l c = some (.bool true)) :
    Region.wanted ⟨dst,h,ty,ps,af,some (j,false)⟩ (yielded b a.tmps) = false:=by simp [Region.wanted,f.yield g d]
section
variable {w w' : World} {g : Nat} {t : TypeId} {cs : Array Value} {L : List Nat}
theorem Blk.cl (h : Blk w g t cs) {i : Nat} {v : Value} (a : cs.toList[i]? = some v) : w.cell? ⟨g,i,none⟩ = some v:=h.cell_ (by simpa using a)
theorem Blk.range (h : Blk w g t cs) : w.rangeAt g 0 cs.toList:=fun j v a=>by
  rw [Nat.zero_add]
  exact h.cell_ (by simpa using a)
theorem Blk.there (h : Blk w g t cs) {o n : Nat} (b : o + n ≤ cs.size) : w.there g o n:=fun j a=>by
  refine ⟨?_,h.frozen _⟩
  rw [h.cell]
  simp
  omega
structure Newb (w w' : World) (g : Nat) (t : TypeId) (cs : Array Value) : Prop where
  blk : Blk w' g t cs
  kept : Kept [] w w'
  lo : w.heap.size ≤ g
theorem K7 (w : World) (t : TypeId) (cs : Array Value) : Newb w (w.alloc (.cells cs t)) w.heap.size t cs:=⟨Blk.new w t cs,(Kept.refl [] w).alloc _,Nat.le_refl _⟩
theorem Hm (h : Blk w g t cs) (a : Array Value) (m : a.size = cs.size) : Blk (w.setCells g 0 a.toList) g t a:=by
  obtain ⟨b,d,k,l,f⟩:=Dd g a.toList 0 w cs t (0,0) h
  have : b = a:=by
    apply Array.ext (by omega)
    intro i j c;have:=f i a[i] (by simp [c]) (by omega);rw [Nat.zero_add] at this;rw [Array.getElem?_eq_getElem j] at this
    simpa using this
  rw [this] at d;exact d
theorem B4 (w : World) (g o : Nat) (a : List Value) : Kept [g] w (w.setCells g o a):=by
  obtain ⟨b,c,d,h⟩:=Df g a o w;exact ⟨b,c,d,by omega,fun k i f=>De g _ _ w k (by simpa using f)⟩
theorem Bj (w : World) (g o : Nat) (v : Value) : Kept [g] w (w.setCell ⟨g,o,none⟩ v):=(Kept.refl [g] w).setCell (p:=⟨g,o,none⟩) (by simp) v
end
section
variable {P : Program} {ops : Array Oper} {rest : List Oper} {a : Act} {w : World} {Q : Exit → Act → World → Prop} {n d : Nat} {l : FL} {v : Value} {dst : Option Nat} {ty : TypeId} {ps : String} {af : Array Edge} {gd : Option (Nat × Bool)} {x y : Operand} {t : TypeId}
theorem L.alloc (f : Fr n a l) (hw : Region.wanted ⟨some d, .alloc t, ty, ps, af, gd⟩ (yielded ops a.tmps) = true) (i : d < n) {z : Value} (j : ∀ w, (zeroValue t).run P w = .ok z w) {cs : Array Value} (b : z.cells = cs)
    (h : ∀ a' w' g,Newb w w' g t cs → Fr n a' ((d,.pointer (some ⟨g,0,none⟩)) :: l) → wpList P ops Q rest a' w') : wpList P ops Q (⟨some d,.alloc t,ty,ps,af,gd⟩ :: rest) a w:=
  L.val f hw rfl i (E.alloc f j) fun a' c=>h a' _ _ (b ▸ K7 w t _) c
theorem L.box (f : Fr n a l) (hw : Region.wanted ⟨some d, .box t x, ty, ps, af, gd⟩ (yielded ops a.tmps) = true) (i : d < n) (j : Ae l x = some v) {cs : Array Value} (b : v.cells = cs)
    (h : ∀ a' w' g,Newb w w' g t cs → Fr n a' ((d,.pointer (some ⟨g,0,none⟩)) :: l) → wpList P ops Q rest a' w') : wpList P ops Q (⟨some d,.box t x,ty,ps,af,gd⟩ :: rest) a w:=
  L.val f hw rfl i (E.box f j) fun a' c=>h a' _ _ (b ▸ K7 w t _) c
theorem L.store (f : Fr n a l) (hw : Region.wanted ⟨none, .store t x y, ty, ps, af, gd⟩ (yielded ops a.tmps) = true) (hi : (P.info? t).map (·.size) = some 1) {g o : Nat} {e : TypeId} {cs : Array Value} (j : Ae l x = some (.pointer (some ⟨g, o, none⟩))) (k : Ae l y = some v) (c : v.oneCell' = true)
    (B : Blk w g e cs) (i : o < cs.size) (h : ∀ a' w',Fr n a' l → Blk w' g e (cs.setIfInBounds o v) → Kept [g] w w' → wpList P ops Q rest a' w') : wpList P ops Q (⟨none,.store t x y,ty,ps,af,gd⟩ :: rest) a w:=
  L.act f hw rfl (E.store f hi j k c (B.cell_ (Array.getElem?_eq_getElem i)) (B.frozen o)) fun a' b=>h a' _ b (B.set_ o v) (Bj w g o v)
theorem L.storeR (f : Fr n a l) (hw : Region.wanted ⟨none, .store t x y, ty, ps, af, gd⟩ (yielded ops a.tmps) = true) {g : Nat} {e : TypeId} {cs b : Array Value} {s : Nat} (hi : (P.info? t).map (·.size) = some s) (m : Ae l x = some (.pointer (some ⟨g, 0, none⟩))) (o : Ae l y = some (.agg b)) (h : b.toList.all (·.oneCell') = true)
    (B : Blk w g e cs) (k : b.size = cs.size) (j : b.size = s) (i : ∀ a' w',Fr n a' l → Blk w' g e b → Kept [g] w w' → wpList P ops Q rest a' w') : wpList P ops Q (⟨none,.store t x y,ty,ps,af,gd⟩ :: rest) a w:=
  L.act f hw rfl (E.storeR f (j ▸ hi) m o (by simpa using h) (B.there (by omega))) fun a' c=>i a' _ c (Hm B b k) (B4 w g 0 _)
theorem E.loadB (f : Fr n a l) {g : Nat} {e : TypeId} {cs : Array Value} {d : TypeDesc} {s : Nat} (h : P.underlying t = some d) (b : d.isRow = true) (hi : (P.info? t).map (·.size) = some s) (i : Ae l x = some (.pointer (some ⟨g, 0, none⟩))) (B : Blk w g e cs) (c : cs.size = s) :
    (execOp a.eval ⟨dst,.load t x,ty,ps,af,gd⟩).run P w = .ok (.value (.agg cs)) w:=by
  have:=E.loadR (P:=P) (w:=w) (dst:=dst) (ty:=ty) (ps:=ps) (af:=af) (g:=gd) (t:=t) f h b (cs:=cs.toList) hi i B.range (by simpa using c)
  simpa using this
end
section
variable {P : Program} {ops : Array Oper} {Q : Exit → Act → World → Prop} {md : Region.Mode} {S : World → Prop} {a : Act} {w : World} {n d : Nat} {l : FL} {v : Value} {fuel : Nat} {listed : Array Bool} {ty : TypeId} {ps : String} {af : Array Edge} {gd : Option (Nat × Bool)} {x y : Operand} {t : TypeId}
theorem R.store (i : Nat) (f : Fr n a l) (hi : ops[i]? = some ⟨none, .store t x y, ty, ps, af, gd⟩) (m : Region.ready md ops listed = [i]) (hw : Region.wanted ⟨none, .store t x y, ty, ps, af, gd⟩ (yielded ops a.tmps) = true) (p : (P.info? t).map (·.size) = some 1) {g o : Nat} {e : TypeId} {cs : Array Value} (q : Ae l x = some (.pointer (some ⟨g, o, none⟩))) (r : Ae l y = some v) (h : v.oneCell' = true)
    (B : Blk w g e cs) (k : o < cs.size) (b : ∀ w',Kept [g] w w' → S w') (j : ∀ a' w',Fr n a' l → Blk w' g e (cs.setIfInBounds o v) → Kept [g] w w' → S w' → wpAnyH P md ops Q S fuel (listed.setIfInBounds i true) a' w') : wpAnyH P md ops Q S (fuel + 1) listed a w:=
  R.act i f hi rfl m hw (E.store f p q r h (B.cell_ (Array.getElem?_eq_getElem k)) (B.frozen o)) (b _ (Bj w g o v)) fun a' c=>j a' _ c (B.set_ o v) (Bj w g o v) (b _ (Bj w g o v))
end
end Go.Hub
namespace Go.Hub
open Go.RowKit
def Sl (w : World) (A : Option Addr) (n size : Nat) (xs : List Value) : Prop:=
  xs.length = n * size ∧ (0 < n → ∃ b off,A = some ⟨b,off,none⟩ ∧ b < w.heap.size ∧ ∀ j u,xs[j]? = some u → w.cell? ⟨b,off + j,none⟩ = some u)
def Far (A : Option Addr) (L : List Nat) : Prop:=∀ a,A = some a → a.block ∉ L
section
variable {w w' : World} {A : Option Addr} {n size : Nat} {xs : List Value} {L : List Nat}
theorem Sl.nil (w : World) (A : Option Addr) (size : Nat) : Sl w A 0 size []:=⟨by simp,fun h=>absurd h (by omega)⟩
theorem Sl.keptF (h : Sl w A n size xs) (d : Kept L w w') (g : Far A L) : Sl w' A n size xs:=
  ⟨h.1,fun i=>by
    obtain ⟨b,a,e,c,f⟩:=h.2 i
    refine ⟨b,a,e,Nat.lt_of_lt_of_le c d.size,fun j u k=>?_⟩
    rw [d.cell (p:=⟨b,a + j,none⟩) c (g ⟨b,a,none⟩ e)]
    exact f j u k⟩
theorem Far.nil (A : Option Addr) : Far A []:=fun _ _=>by simp
theorem Sl.kept (h : Sl w A n size xs) (a : Kept [] w w') : Sl w' A n size xs:=h.keptF a (Far.nil A)
theorem Sl.oO {e : TypeId} {c : Nat} (h : Own w e size (.slice A n c) n xs) : Sl w A n size xs:=by
  refine ⟨h.1,fun o=>?_⟩
  rcases h.2 with ⟨_,m⟩ | ⟨g,b,f,a,k,d,_,_,_,i⟩
  · omega
  · injection k with hA
    refine ⟨g,b,hA,(Array.getElem?_eq_some_iff.1 d).1,fun j x l=>?_⟩;rw [cell_of_row w g _ a e (0,0) d];exact i j _ l
theorem Sl.rds (h : Sl w A n size xs) : Rds w w.heap.size size A n xs:=⟨h.1,h.2⟩
theorem Sl.of_rds (h : Rds w w.heap.size size A n xs) : Sl w A n size xs:=⟨h.1,h.2⟩
theorem Sl.addr (h : Sl w A n size xs) (a : 0 < n) : ∃ b off,A = some ⟨b,off,none⟩:=by
  obtain ⟨b,off,e,_⟩:=h.2 a;exact ⟨b,off,e⟩
theorem Sl.cell (h : Sl w A n size xs) {b a j : Nat} {u : Value} (g : 0 < n) (d : A = some ⟨b,a,none⟩) (i : xs[j]? = some u) : w.cell? ⟨b,a + j,none⟩ = some u:=by
  obtain ⟨k,c,e,_,f⟩:=h.2 g;rw [d] at e
  injection e with e
  injection e with e1 e2
  subst e1 e2;exact f j u i
theorem Sl.row (h : Sl w A n size xs) {b a i : Nat} {cs : List Value} (f : 0 < n) (c : A = some ⟨b,a,none⟩) (g : ∀ j u,cs[j]? = some u → xs[i * size + j]? = some u) : w.rangeAt b (a + i * size) cs:=fun j u d=>by
  rw [Nat.add_assoc]
  exact h.cell f c (g j u d)
end
section
variable {P : Program} {a : Act} {w : World} {n : Nat} {l : FL} {dst : Option Nat} {ty : TypeId} {ps : String} {af : Array Edge} {g : Option (Nat × Bool)} {x y : Operand} {t : TypeId}
theorem E.indexA (f : Fr n a l) {e : TypeId} {A : Option Addr} {b o m c s : Nat} {k : IntKind} {i : Int} (j : A = some ⟨b, o, none⟩) (q : P.underlying t = some (.slice e)) (p : (P.info? e).map (·.size) = some s) (r : Ae l x = some (.slice A m c)) (u : Ae l y = some (.int k i))
    (d : 0 ≤ i) (h : i < m) : (execOp a.eval ⟨dst,.indexAddr t x y,ty,ps,af,g⟩).run P w = .ok (.value (.pointer (some ⟨b,o + i.toNat * s,none⟩))) w:=by
  subst j;exact E.indexAddr f q p r u d h
end
section
variable {M : Type} (cell : M → List Value) (size : Nat) (hs : ∀ m,(cell m).length = size)
include hs
theorem N0 (l : List M) : (l.flatMap cell).length = l.length * size:=by
  induction l with
  | nil=>simp
  | cons a r ih=>simp [ih,hs,Nat.add_mul]; omega
theorem Fk (l : List M) (i : Nat) (m : M) (h : l[i]? = some m) (j : Nat) (u : Value) (b : (cell m)[j]? = some u) : (l.flatMap cell)[i * size + j]? = some u:=by
  induction l generalizing i with
  | nil=>simp at h
  | cons a r ih=>
    have c : j < size:=by
      have:=(List.getElem?_eq_some_iff.1 b).1
      rwa [hs] at this
    match i with
    | 0=>
      simp at h;subst h;simp only [List.flatMap_cons,Nat.zero_mul,Nat.zero_add];rw [List.getElem?_append_left (by rw [hs]; exact c)];exact b
    | i + 1=>
      have:=ih i (by simpa using h);simp only [List.flatMap_cons];rw [List.getElem?_append_right (by rw [hs,Nat.add_mul]; omega),hs,Nat.add_mul,Nat.one_mul];rw [show i * size + size + j - size = i * size + j from by omega];exact this
end
end Go.Hub
namespace Go.Hub
open Go.RowKit
section
variable {P : Program} {ops : Array Oper} {Q : Exit → Act → World → Prop} {md : Region.Mode} {S : World → Prop} {a : Act} {w w' : World} {n d : Nat} {l : FL} {v : Value} {o : Oper} {K : Act → World → Prop}
theorem O.val {i : Nat} (f : Fr n a l) (hi : ops[i]? = some o) (g : o.dst = some d) (h : d < n) (hw : Region.wanted o (yielded ops a.tmps) = true)
    (j : (execOp a.eval o).run P w = .ok (.value v) w') (c : S w') (b : ∀ a',Fr n a' ((d,v) :: l) → K a' w') : wpOp P ops Q i (fun a w=>S w ∧ K a w) a w:=by
  unfold wpOp;simp only [hi,hw,if_true];refine .inl ?_;unfold Oper.wp;rw [j];show S w' ∧ K (a.put o.dst v) w';rw [g];exact ⟨c,b _ (f.put d v h)⟩
theorem R.one (i : Nat) {fuel : Nat} {b : Array Bool} (f : Region.ready md ops b = [i]) (h : wpOp P ops Q i (fun a w=>S w ∧ wpAnyH P md ops Q S fuel (b.setIfInBounds i true) a w) a w) : wpAnyH P md ops Q S (fuel + 1) b a w:=
  wpAnyH_all f (by simp) fun j c=>by
    simp only [List.mem_singleton] at c
    subst c
    exact h
theorem R.two (i j : Nat) {fuel : Nat} {b : Array Bool} (g : Region.ready md ops b = [i, j]) (h : wpOp P ops Q i (fun a w => S w ∧ wpAnyH P md ops Q S fuel (b.setIfInBounds i true) a w) a w)
    (f : wpOp P ops Q j (fun a w=>S w ∧ wpAnyH P md ops Q S fuel (b.setIfInBounds j true) a w) a w) : wpAnyH P md ops Q S (fuel + 1) b a w:=
  wpAnyH_all g (by simp) fun k c=>by
    simp only [List.mem_cons,List.not_mem_nil,or_false] at c
    rcases c with rfl | rfl
    · exact h
    · exact f
end
section
variable {P : Program} {ops : Array Oper} {rest : List Oper} {a : Act} {w : World} {Q : Exit → Act → World → Prop} {n d : Nat} {l : FL} {v : Value} {ty : TypeId} {ps : String} {af : Array Edge} {gd : Option (Nat × Bool)} {x y : Operand} {t : TypeId}
theorem E.eqlP {dst : Option Nat} (f : Fr n a l) {e : TypeId} {ad : Addr} {u : TypeId} (b : P.underlying t = some (.pointer e)) (c : Ae l x = some (.pointer (some ad))) (g : Ae l y = some (.pointer none)) : (execOp a.eval ⟨dst,.binOp .eql t x y u,ty,ps,af,gd⟩).run P w = .ok (.value (.bool false)) w:=
  E.eqlV f c g fun w=>by
    have : ∀ d,(Op.equalIn (d + 1) t (.pointer (some ad)) (.pointer none)).run P w = .ok false w:=fun d=>by simp [Op.equalIn,run_underlying b]
    rw [Sem.run_bind]
    simp only [eqGuard,binOp]
    simp [Op.equal,Op.maxDepth,this 9999]
theorem E.eqlNil {dst : Option Nat} (f : Fr n a l) {e : TypeId} {A : Option Addr} {m c : Nat} {u : TypeId} (b : P.underlying t = some (.slice e)) (g : Ae l x = some (.slice A m c)) (h : Ae l y = some (.slice none 0 0)) : (execOp a.eval ⟨dst,.binOp .eql t x y u,ty,ps,af,gd⟩).run P w = .ok (.value (.bool A.isNone)) w:=
  E.eqlV f g h fun w=>by
    rw [Sem.run_bind]
    have:=Lib.run_eql_slice_nil (P:=P) w t e A m c 0 0 b
    simp only [eqGuard]
    exact this
theorem E.buildSlice {dst : Option Nat} (f : Fr n a l) {b : Array (Nat × Operand)} {m : List (Nat × Value)} {e g h : Nat} {c : Array Value} {z : Value} (hx : (b.map fun p => (p.1, a.eval p.2)).toList = m) (hu : P.underlying t = some (.slice e))
    (hi : (P.info? e).map (fun i=>(i.zero,i.size)) = some (some z,h)) (hs : Nat.ble (g * h) 16777216 = true) (o : Nat.beq (g * h) 0 = false) (u : Instr.fill (fun i=>some (i * h,h)) ((Array.range (g * h)).map fun j=>z.cells[j % z.cells.size]!) m = some c) :
    (execOp a.eval ⟨dst,.buildSlice t g b,ty,ps,af,gd⟩).run P w = .ok (.value (.slice (some ⟨w.heap.size,0,none⟩) g g)) (w.alloc (.cells c e)):=by
  cases hq : P.info? e with
  | none=>simp [hq] at hi
  | some ie=>
    simp [hq] at hi;obtain ⟨r,s⟩:=hi;subst s;have k : (b.map fun (i,x)=>(i,a.eval x)).toList = m:=hx;have a0:=Nat.le_of_ble_eq_true hs;have hr:=run_buildSlice (P:=P) w t e g (b.map fun (i,x)=>(i,a.eval x)) c ie z hu hq r (by omega) (fun q=>by rw [q] at o; simp at o) (by rw [k]; exact u);simp only [execOp];rw [Sem.run_bind,hr]
    rfl
theorem E.bN {dst : Option Nat} (f : Fr n a l) {e : TypeId} {g : Nat} (c : P.underlying t = some (.slice e)) (hi : (P.info? e).map (·.size) = some g) :
    (execOp a.eval ⟨dst,.buildSlice t 0 #[],ty,ps,af,gd⟩).run P w = .ok (.value (.slice (some ⟨w.heap.size,0,none⟩) 0 0)) (w.alloc (.cells #[] e)):=by
  cases hq : P.info? e with
  | none=>simp [hq] at hi
  | some ie=>
    have h : ∀ z : Array Value,(Array.range 0).map (fun x=>z[x % z.size]!) = #[]:=fun z=>by simp
    have b : (Array.range 0).map (fun _=>(default : Value)) = #[]:=by simp [Array.range]
    simp [execOp,Instr.buildSlice,run_underlying c,sizeOf,typeInfo,hq,Instr.fill,newRow];rw [b]
theorem L.buildSlice (f : Fr n a l) {c : Array (Nat × Operand)} {b : Nat} (hw : Region.wanted ⟨some d, .buildSlice t b c, ty, ps, af, gd⟩ (yielded ops a.tmps) = true) (s : d < n) {m : List (Nat × Value)} {e k : Nat} {h : Array Value} {z : Value} (hx : (c.map fun p => (p.1, a.eval p.2)).toList = m) (hu : P.underlying t = some (.slice e))
    (hi : (P.info? e).map (fun i=>(i.zero,i.size)) = some (some z,k)) (hs : Nat.ble (b * k) 16777216 = true) (u : Nat.beq (b * k) 0 = false) (r : Instr.fill (fun i=>some (i * k,k)) ((Array.range (b * k)).map fun j=>z.cells[j % z.cells.size]!) m = some h)
    (q : ∀ a' w' g,Newb w w' g e h → Fr n a' ((d,.slice (some ⟨g,0,none⟩) b b) :: l) → wpList P ops Q rest a' w') : wpList P ops Q (⟨some d,.buildSlice t b c,ty,ps,af,gd⟩ :: rest) a w:=
  L.val f hw rfl s (E.buildSlice f hx hu hi hs u r) fun a' o=>q a' _ _ (K7 w e _) o
theorem L.bN (f : Fr n a l) (hw : Region.wanted ⟨some d, .buildSlice t 0 #[], ty, ps, af, gd⟩ (yielded ops a.tmps) = true) (h : d < n) {e : TypeId} {j : Nat} (i : P.underlying t = some (.slice e)) (hi : (P.info? e).map (·.size) = some j)
    (c : ∀ a' w' g,Newb w w' g e #[] → Fr n a' ((d,.slice (some ⟨g,0,none⟩) 0 0) :: l) → wpList P ops Q rest a' w') : wpList P ops Q (⟨some d,.buildSlice t 0 #[],ty,ps,af,gd⟩ :: rest) a w:=
  L.val f hw rfl h (E.bN f i hi) fun a' b=>c a' _ _ (K7 w e _) b
theorem Newb.own {w w' : World} {g : Nat} {e : TypeId} {cs : Array Value} (h : Newb w w' g e cs) {k size : Nat} (c : cs.size = k * size) (b : k ≤ maxLen) : Own w' e size (.slice (some ⟨g,0,none⟩) k k) k cs.toList:=
  ⟨by simpa using c,.inr ⟨g,0,k,cs,rfl,h.blk,Nat.le_refl _,b,by omega,fun j u f=>by rw [Nat.zero_add]; simpa using f⟩⟩
structure App (w w' : World) (e : TypeId) (size : Nat) (A : Option Addr) (k c : Nat) (xs news : List Value) (m : Nat) (A' : Option Addr) (c' : Nat) : Prop where
  own : Own w' e size (.slice A' (k + m) c') (k + m) (xs ++ news)
  kept : Kept (Value.slice A k c).ownBlock.toList w w'
  where_ : ∀ b,A'.map (·.block) = some b → A.map (·.block) = some b ∨ w.heap.size ≤ b
theorem E.append {dst : Option Nat} (f : Fr n a l) {e size g k c m c2 : Nat} {z : Value} {A q : Option Addr} {xs j : List Value} (ht : P.underlying t = some (.slice e)) (hi : (P.info? e).map (fun i => (i.zero, i.size, i.bytes)) = some (some z, size, g)) (a2 : z.cells.size = size) (a0 : Nat.blt 0 size = true)
    (hx : Ae l x = some (.slice A k c)) (hy : Ae l y = some (.slice q m c2)) (o : Own w e size (.slice A k c) k xs) (hr : Sl w q m size j) (h1 : ∀ u ∈ j,u.oneCell' = true) (r : k + m ≤ maxLen) (hb : (k + m) * g ≤ 140737488355328) :
    ∃ A' c' w',(execOp a.eval ⟨dst,.call { callee:=.builtin .append,args:=#[x,y],argTypes:=#[t,t] },ty,ps,af,gd⟩).run P w = .ok (.value (.slice A' (k + m) c')) w' ∧ App w w' e size A k c xs j m A' c':=by
  obtain ⟨ie,s,h2,h3,h4⟩:=info_parts hi;obtain ⟨v',w',p,ho,hk,a1⟩:=Ny (P:=P) w t ty e ie z size g ht s h2 h3 h4 a2 (by simpa using a0) (.slice A k c) k xs o w.heap.size q m c2 j hr.rds h1 r hb;obtain ⟨A',c',rfl,_⟩:=ho.form;refine ⟨A',c',w',?_,ho,hk,fun b hb=>?_⟩
  · simp only [execOp,resolve,invoke,builtin,Sem.run_bind,Sem.run_pure,Result.andThen_ok,List.map_toArray,List.map_cons,List.map_nil,f.ev hx,f.ev hy,p]
  · have := a1 b (by cases A' <;> simp_all [Value.ownBlock])
    rcases this with h | h
    · exact .inl (by cases A <;> simp_all [Value.ownBlock])
    · exact .inr h
theorem L.append (f : Fr n a l) (hw : Region.wanted ⟨some d, .call { callee := .builtin .append, args := #[x, y], argTypes := #[t, t] }, ty, ps, af, gd⟩ (yielded ops a.tmps) = true) (hn : d < n) {e size b k c m c2 : Nat} {z : Value} {A s : Option Addr} {xs g : List Value} (ht : P.underlying t = some (.slice e)) (hi : (P.info? e).map (fun i => (i.zero, i.size, i.bytes)) = some (some z, size, b)) (r : z.cells.size = size) (q : Nat.blt 0 size = true)
    (hx : Ae l x = some (.slice A k c)) (hy : Ae l y = some (.slice s m c2)) (j : Own w e size (.slice A k c) k xs) (hr : Sl w s m size g) (h1 : ∀ u ∈ g,u.oneCell' = true) (p : k + m ≤ maxLen) (hb : (k + m) * b ≤ 140737488355328)
    (hK : ∀ a' w' A' c',App w w' e size A k c xs g m A' c' → Fr n a' ((d,.slice A' (k + m) c') :: l) → wpList P ops Q rest a' w') : wpList P ops Q (⟨some d,.call { callee:=.builtin .append,args:=#[x,y],argTypes:=#[t,t] },ty,ps,af,gd⟩ :: rest) a w:=by
  obtain ⟨A',c',w',o,h⟩:=E.append (dst:=some d) (ty:=ty) (ps:=ps) (af:=af) (gd:=gd) f ht hi r q hx hy j hr h1 p hb;exact L.val f hw rfl hn o fun a' f'=>hK a' w' A' c' h f'
end
structure Fresh (w w' : World) (e size : Nat) (A : Option Addr) (n c : Nat) (xs : List Value) : Prop where
  own : Own w' e size (.slice A n c) n xs
  lo : ∀ b,A.map (·.block) = some b → w.heap.size ≤ b
section
variable {w w' w'' : World} {e size k c m c' n : Nat} {A A' : Option Addr} {xs news : List Value}
theorem Fresh.nil (w w' : World) (e size : Nat) : Fresh w w' e size none 0 0 []:=⟨Own.nil _ _ _,fun b h=>by simp at h⟩
theorem Fresh.sl (h : Fresh w w' e size A n c xs) : Sl w' A n size xs:=Sl.oO h.own
theorem Ag (A : Option Addr) (n c : Nat) (b : Nat) : (Value.slice A n c).ownBlock = some b ↔ A.map (·.block) = some b:=by cases A <;> simp [Value.ownBlock]
theorem Fresh.kept {L : List Nat} (h : Fresh w w' e size A n c xs) (f : Kept L w' w'') (d : ∀ b,A.map (·.block) = some b → b ∉ L) : Fresh w w'' e size A n c xs:=
  ⟨h.own.kept f fun b a=>d b ((Ag A n c b).1 a),h.lo⟩
theorem Fresh.k0 (h : Fresh w w' e size A n c xs) (a : Kept [] w' w'') : Fresh w w'' e size A n c xs:=h.kept a (by simp)
theorem Fresh.lw {a : World} (h : Fresh w w' e size A n c xs) (f : a.heap.size ≤ w.heap.size) : Fresh a w' e size A n c xs:=⟨h.own,fun b d=>Nat.le_trans f (h.lo b d)⟩
theorem App.next {a : World} (h : App w w' e size A k c xs news m A' c') (g : Fresh a w e size A k c xs) (i : a.heap.size ≤ w.heap.size) : Fresh a w' e size A' (k + m) c' (xs ++ news):=
  ⟨h.own,fun b f=>by
    rcases h.where_ b f with d | d
    · exact g.lo b d
    · omega⟩
theorem App.grow {a : World} {L : List Nat} (h : App w w' e size A k c xs news m A' c') (b : Fresh a w e size A k c xs) (d : Kept L a w) : Kept L a w':=
  d.trans h.kept fun x g f=>by
    have:=b.lo x ((Ag A k c x).1 (by simpa using g))
    omega
end
section
variable {w w' : World} {e size n c : Nat} {A : Option Addr} {xs : List Value}
theorem Own.set_ (h : Own w e size (.slice A n c) n xs) {b a j : Nat} (t : A = some ⟨b, a, none⟩) (x : j < xs.length) (u : Value) :
    (∃ old,w.cell? ⟨b,a + j,none⟩ = some old) ∧ w.frozen? ⟨b,a + j,none⟩ = false ∧ Own (w.setCell ⟨b,a + j,none⟩ u) e size (.slice A n c) n (xs.set j u):=by
  obtain ⟨s,h2⟩:=h
  rcases h2 with ⟨f,z⟩ | ⟨g,o,y,d,f,hg,m,q,r,hc⟩
  · subst z
    rw [s,Nat.zero_mul] at x;omega
  · injection f with e1 e2 e3
    subst e3;rw [t] at e1
    injection e1 with e1
    injection e1 with e4 e5
    subst e4 e5;have p : Blk w b e d:=hg
    have l : a + j < d.size:=by
      have : n * size ≤ c * size:=Nat.mul_le_mul_right _ m;omega
    refine ⟨⟨d[a + j],p.cell_ (Array.getElem?_eq_getElem l)⟩,p.frozen _,by rw [List.length_set]; exact s,.inr ⟨b,a,c,d.setIfInBounds (a + j) u,by rw [t],p.set_ _ _,m,q,by simpa using r,fun i v f=>?_⟩⟩;rw [Array.getElem?_setIfInBounds];rw [List.getElem?_set] at f
    by_cases k : j = i
    · subst k
      rw [if_pos rfl,if_pos x] at f;rw [if_pos rfl,if_pos l];exact f
    · rw [if_neg k] at f
      rw [if_neg (by omega)];exact hc i v f
end
section
variable {P : Program} {ops : Array Oper} {Q : Exit → Act → World → Prop} {S : World → Prop} {a : Act} {w : World} {n d : Nat} {l : FL} {K : Act → World → Prop} {ty : TypeId} {ps : String} {af : Array Edge} {gd : Option (Nat × Bool)} {x y : Operand} {t : TypeId}
theorem O.append {i : Nat} (f : Fr n a l) (ho : ops[i]? = some ⟨some d, .call { callee := .builtin .append, args := #[x, y], argTypes := #[t, t] }, ty, ps, af, gd⟩) (hw : Region.wanted ⟨some d, .call { callee := .builtin .append, args := #[x, y], argTypes := #[t, t] }, ty, ps, af, gd⟩ (yielded ops a.tmps) = true) (hn : d < n) {e size b k c m c2 : Nat} {z : Value} {A s : Option Addr} {xs g : List Value} (ht : P.underlying t = some (.slice e)) (hi : (P.info? e).map (fun i => (i.zero, i.size, i.bytes)) = some (some z, size, b)) (r : z.cells.size = size) (q : Nat.blt 0 size = true)
    (hx : Ae l x = some (.slice A k c)) (hy : Ae l y = some (.slice s m c2)) (j : Own w e size (.slice A k c) k xs) (hr : Sl w s m size g) (h1 : ∀ u ∈ g,u.oneCell' = true) (p : k + m ≤ maxLen) (hb : (k + m) * b ≤ 140737488355328)
    (v : ∀ a' w' A' c',App w w' e size A k c xs g m A' c' → S w' ∧ (Fr n a' ((d,.slice A' (k + m) c') :: l) → K a' w')) : wpOp P ops Q i (fun a w=>S w ∧ K a w) a w:=by
  obtain ⟨A',c',w',o,h⟩:=E.append (dst:=some d) (ty:=ty) (ps:=ps) (af:=af) (gd:=gd) f ht hi r q hx hy j hr h1 p hb;exact O.val f ho rfl hn hw o (v a w' A' c' h).1 fun a' f'=>(v a' w' A' c' h).2 f'
theorem O.buildSlice {i : Nat} (f : Fr n a l) {c : Array (Nat × Operand)} {b : Nat} (v : ops[i]? = some ⟨some d, .buildSlice t b c, ty, ps, af, gd⟩) (hw : Region.wanted ⟨some d, .buildSlice t b c, ty, ps, af, gd⟩ (yielded ops a.tmps) = true) (u : d < n) {o : List (Nat × Value)} {e k : Nat} {h : Array Value} {z : Value} (hx : (c.map fun p => (p.1, a.eval p.2)).toList = o) (hu : P.underlying t = some (.slice e))
    (hi : (P.info? e).map (fun i=>(i.zero,i.size)) = some (some z,k)) (hs : Nat.ble (b * k) 16777216 = true) (hp : Nat.beq (b * k) 0 = false) (s : Instr.fill (fun i=>some (i * k,k)) ((Array.range (b * k)).map fun j=>z.cells[j % z.cells.size]!) o = some h)
    (m : ∀ w',Kept [] w w' → S w') (r : ∀ a' w' g,Newb w w' g e h → S w' → Fr n a' ((d,.slice (some ⟨g,0,none⟩) b b) :: l) → K a' w') : wpOp P ops Q i (fun a w=>S w ∧ K a w) a w:=
  O.val f v rfl u hw (E.buildSlice f hx hu hi hs hp s) (m _ (K7 w e _).kept) fun a' q=>r a' _ _ (K7 w e _) (m _ (K7 w e _).kept) q
theorem O.alloc {i : Nat} (f : Fr n a l) (m : ops[i]? = some ⟨some d, .alloc t, ty, ps, af, gd⟩) (hw : Region.wanted ⟨some d, .alloc t, ty, ps, af, gd⟩ (yielded ops a.tmps) = true) (k : d < n) {z : Value} (o : ∀ w, (zeroValue t).run P w = .ok z w) {cs : Array Value} (b : z.cells = cs)
    (c : ∀ w',Kept [] w w' → S w') (j : ∀ a' w' g,Newb w w' g t cs → S w' → Fr n a' ((d,.pointer (some ⟨g,0,none⟩)) :: l) → K a' w') : wpOp P ops Q i (fun a w=>S w ∧ K a w) a w:=
  O.val f m rfl k hw (E.alloc f o) (c _ (K7 w t _).kept) fun a' h=>j a' _ _ (b ▸ K7 w t _) (c _ (K7 w t _).kept) h
end
end Go.Hub
namespace Go.Hub
open Go.RowKit
def Gd : List Value → Nat → List Value → List Value
  | xs,_,[]=>xs
  | xs,o,v :: r=>Gd (xs.set o v) (o + 1) r
theorem Iu : ∀ (a xs : List Value) (o i : Nat), o + a.length ≤ xs.length → (Gd xs o a)[i]? = if o ≤ i ∧ i < o + a.length then a[i - o]? else xs[i]?
  | [],xs,o,i,_=>by
    have : ¬ (o ≤ i ∧ i < o + ([] : List Value).length):=by simp
    rw [if_neg this]
    rfl
  | v :: r,xs,o,i,h=>by
    simp only [List.length_cons] at h
    rw [Gd,Iu r _ (o + 1) i (by rw [List.length_set]; omega)]
    by_cases b : o + 1 ≤ i ∧ i < o + 1 + r.length
    · rw [if_pos b, if_pos (by simp; omega)]
      rw [show i - o = (i - (o + 1)) + 1 by omega]
      rfl
    · rw [if_neg b, List.getElem?_set]
      by_cases c : o = i
      · subst c
        rw [if_pos rfl,if_pos (by omega),if_pos (by simp)]
        simp
      · rw [if_neg c,if_neg (by simp; omega)]
section
variable {M : Type} (cell : M → List Value) (size : Nat) (hs : ∀ m,(cell m).length = size)
include hs
theorem Ka (l : List M) (i : Nat) : (l.flatMap cell)[i]? = (l[i / size]?).bind fun m=>(cell m)[i % size]?:=by
  induction l generalizing i with
  | nil=>simp
  | cons a r ih=>
    simp only [List.flatMap_cons]
    rcases Nat.lt_or_ge i size with h | h
    · rw [List.getElem?_append_left (by rw [hs]; exact h), Nat.div_eq_of_lt h, Nat.mod_eq_of_lt h]
      rfl
    · rw [List.getElem?_append_right (by rw [hs]; exact h), hs, ih]
      rcases Nat.eq_zero_or_pos size with b | b
      · subst b
        have : ∀ m,cell m = []:=fun m=>List.eq_nil_of_length_eq_zero (hs m);simp [this]
      · rw [Nat.div_eq_sub_div b h, Nat.mod_eq_sub_mod h]
        rfl
theorem x3r (g : 0 < size) (l : List M) (i : Nat) (m : M) (hi : i < l.length) : Gd (l.flatMap cell) (i * size) (cell m) = (l.set i m).flatMap cell:=by
  have c : (l.flatMap cell).length = l.length * size:=N0 cell size hs l
  have f : i * size + size ≤ l.length * size:=by
    calc i * size + size = (i + 1) * size := by rw [Nat.add_mul, Nat.one_mul]
      _ ≤ l.length * size:=Nat.mul_le_mul_right _ hi
  apply List.ext_getElem?
  intro j;rw [Iu _ _ _ _ (by rw [hs,c]; exact f),Ka cell size hs,Ka cell size hs,List.getElem?_set]
  by_cases b : i * size ≤ j ∧ j < i * size + (cell m).length
  · rw [if_pos b]
    rw [hs] at b
    have d : j / size = i:=by
      refine (Nat.div_eq_iff g).2 ⟨b.1,?_⟩;omega
    have h : j % size = j - i * size:=by
      have:=Nat.div_add_mod j size;rw [d,Nat.mul_comm] at this;omega
    rw [d,h,if_pos rfl,if_pos hi]
    rfl
  · rw [if_neg b]
    rw [hs] at b;have d : ¬ i = j / size:=fun e=>b ⟨by rw [e]; exact Nat.div_mul_le_self j size,by rw [e]; have:=Nat.lt_div_mul_add (a:=j) g; omega⟩;rw [if_neg d]
end
section
variable {w : World} {g : Nat} {t : TypeId}
theorem Blk.seg : ∀ (a xs : List Value) (o : Nat) (w : World), Blk w g t xs.toArray → Blk (w.setCells g o a) g t (Gd xs o a).toArray
  | [],_,_,_,h=>h
  | v :: r,xs,o,w,h=>by
    have:=h.set_ o v
    simp only [List.setIfInBounds_toArray] at this
    exact Blk.seg r (xs.set o v) (o + 1) _ this
end
section
variable {P : Program} {ops : Array Oper} {rest : List Oper} {a : Act} {w : World} {Q : Exit → Act → World → Prop} {n d : Nat} {l : FL} {v : Value} {dst : Option Nat} {ty : TypeId} {ps : String} {af : Array Edge} {gd : Option (Nat × Bool)} {x y : Operand} {t : TypeId} {S : World → Prop} {K : Act → World → Prop}
theorem E.storeSeg (f : Fr n a l) {g o e s : Nat} {xs : List Value} {cs : Array Value} (hi : (P.info? t).map (·.size) = some s) (i : Ae l x = some (.pointer (some ⟨g, o, none⟩))) (j : Ae l y = some (.agg cs)) (b : cs.toList.all (·.oneCell') = true) (B : Blk w g e xs.toArray) (h : o + cs.size ≤ xs.length) (c : cs.size = s) :
    (execOp a.eval ⟨dst,.store t x y,ty,ps,af,gd⟩).run P w = .ok .skip (w.setCells g o cs.toList):=
  E.storeR f (c ▸ hi) i j (by simpa using b) (B.there (by simpa using h))
theorem L.storeSeg (f : Fr n a l) (hw : Region.wanted ⟨none, .store t x y, ty, ps, af, gd⟩ (yielded ops a.tmps) = true) {g o e s : Nat} {xs : List Value} {cs : Array Value} (hi : (P.info? t).map (·.size) = some s) (k : Ae l x = some (.pointer (some ⟨g, o, none⟩))) (m : Ae l y = some (.agg cs)) (c : cs.toList.all (·.oneCell') = true) (B : Blk w g e xs.toArray) (j : o + cs.size ≤ xs.length) (i : cs.size = s)
    (h : ∀ a' w',Fr n a' l → Blk w' g e (Gd xs o cs.toList).toArray → Kept [g] w w' → wpList P ops Q rest a' w') : wpList P ops Q (⟨none,.store t x y,ty,ps,af,gd⟩ :: rest) a w:=
  L.act f hw rfl (E.storeSeg f hi k m c B j i) fun a' b=>h a' _ b (B.seg cs.toList xs o w) (B4 w g o _)
theorem O.act {i : Nat} {o : Oper} {w' : World} (f : Fr n a l) (hi : ops[i]? = some o) (g : o.dst = none) (hw : Region.wanted o (yielded ops a.tmps) = true)
    (h : (execOp a.eval o).run P w = .ok .skip w') (c : S w') (b : ∀ a',Fr n a' l → K a' w') : wpOp P ops Q i (fun a w=>S w ∧ K a w) a w:=by
  unfold wpOp;simp only [hi,hw,if_true];refine .inl ?_;unfold Oper.wp;rw [h];show S w' ∧ K (a.put o.dst undef) w';rw [g];exact ⟨c,b _ f⟩
theorem O.storeSeg {i : Nat} (f : Fr n a l) (b : ops[i]? = some ⟨none, .store t x y, ty, ps, af, gd⟩) (hw : Region.wanted ⟨none, .store t x y, ty, ps, af, gd⟩ (yielded ops a.tmps) = true) {g o e s : Nat} {xs : List Value} {cs : Array Value} (hi : (P.info? t).map (·.size) = some s) (q : Ae l x = some (.pointer (some ⟨g, o, none⟩))) (r : Ae l y = some (.agg cs)) (h : cs.toList.all (·.oneCell') = true) (B : Blk w g e xs.toArray) (p : o + cs.size ≤ xs.length) (m : cs.size = s)
    (k : ∀ w',Kept [g] w w' → S w') (j : ∀ a' w',Fr n a' l → Blk w' g e (Gd xs o cs.toList).toArray → Kept [g] w w' → K a' w') : wpOp P ops Q i (fun a w=>S w ∧ K a w) a w:=
  O.act f b rfl hw (E.storeSeg f hi q r h B p m) (k _ (B4 w g o _)) fun a' c=>j a' _ c (B.seg cs.toList xs o w) (B4 w g o _)
theorem O.store {i : Nat} (f : Fr n a l) (b : ops[i]? = some ⟨none, .store t x y, ty, ps, af, gd⟩) (hw : Region.wanted ⟨none, .store t x y, ty, ps, af, gd⟩ (yielded ops a.tmps) = true) {g o e : Nat} {xs : List Value} (hi : (P.info? t).map (·.size) = some 1) (p : Ae l x = some (.pointer (some ⟨g, o, none⟩))) (q : Ae l y = some v) (h : v.oneCell' = true) (B : Blk w g e xs.toArray) (m : o < xs.length)
    (k : ∀ w',Kept [g] w w' → S w') (j : ∀ a' w',Fr n a' l → Blk w' g e (xs.set o v).toArray → Kept [g] w w' → K a' w') : wpOp P ops Q i (fun a w=>S w ∧ K a w) a w:=
  O.act f b rfl hw (E.store f hi p q h (B.cell_ (v:=xs[o]) (by simp [m])) (B.frozen o)) (k _ (Bj w g o v)) fun a' c=>j a' _ c (by have:=B.set_ o v; simpa only [List.setIfInBounds_toArray] using this) (Bj w g o v)
theorem E.indexArr (f : Fr n a l) {e : TypeId} {b o m s : Nat} {k : IntKind} {i : Int} (p : P.underlying t = some (.array m e)) (g : (P.info? e).map (·.size) = some s) (q : Ae l x = some (.pointer (some ⟨b, o, none⟩))) (r : Ae l y = some (.int k i)) (h : 0 ≤ i) (j : i < m) :
    (execOp a.eval ⟨dst,.indexAddr t x y,ty,ps,af,gd⟩).run P w = .ok (.value (.pointer (some ⟨b,o + i.toNat * s,none⟩))) w:=by
  cases hq : P.info? e with
  | none=>simp [hq] at g
  | some i'=>
    have c : i'.size = s:=by simpa [hq] using g
    simp [execOp,f.ev q,f.ev r,Instr.indexAt,asIntOf,run_underlying p,Instr.sureAddr,h,j,sizeOf,typeInfo,hq,c,K6]
end
section
variable {P : Program} {fn : Func} {R : Ending → World → Prop} {n : Nat} {a : Act} {l : FL} {w : World}
theorem C.ret3 (f : Fr n a l) {t u s : Tmp} (g : fn.results = #[.tmp t,.tmp u,.tmp s]) {v v' c : Value} (i : look l t = some v) (d : look l u = some v') (b : look l s = some c) (h : R (.returned (.tuple #[v,v',c])) w) : bodyPost P fn R .ret a w:=
  bodyPost_ret (by simp [results,g,← Array.getD_eq_getD_getElem?,f.get i,f.get d,f.get b]) f.defers h
end
end Go.Hub
namespace Go.Hub
open Go.RowKit Go.Maps Go.ChangeMaps Go.MapKept
def G1 (x : Int) (S : List Int) : List Int:=if x ∈ S then S else x :: S
section
variable {P : Program} {k e t : TypeId} {w w' : World} {m : Nat} {S : List Int}
theorem IsSet.put (h : IsSet P k e w m S) (n : P.underlying k = some (.int .i64)) (s : P.underlying e = some .bool) (u : P.underlying t = some (.map k e)) {x : Int} (v : (Lit.int .i64 x).wf = true) (r : S.length < maxLen) :
    ∃ w',(Instr.mapUpdate t (.map (some m)) (.int .i64 x) (.bool true)).run P w = .ok () w' ∧ IsSet P k e w' m (G1 x S) ∧ Kept [m] w w':=by
  by_cases c : x ∈ S
  · obtain ⟨o, D, j, z, b, l⟩ := h
    have a:=keyOf_int_mk n v;have K:=int_keyed n;obtain ⟨w',d,p,q⟩:=j.store K u r a (plainElem_bool s true);have i:=j.tidy K
    have f : Maps.size (D.put (.int .i64 x) (.lit (.bool true))) = S.length:=by
      rw [Maps.size_put i,b x];simp [c,z]
    refine ⟨w',d,?_,Dm q⟩;rw [G1,if_pos c];refine ⟨o,_,F2 p (by rw [f]; exact Nat.le_refl _),f,?_,?_⟩
    · intro y
      by_cases g : y = x
      · subst g
        rw [Maps.has_put_same j.isMap (K.key a)];simp [c]
      · rw [Maps.has_put_other (Fe.2 g),b y]
    · intro y
      by_cases g : y = x
      · subst g
        rw [Maps.atKey_put_same j.isMap (K.key a)];simp [c]
      · rw [Maps.atKey_put_other (Fe.2 g),l y]
  · rw [G1, if_neg c]
    exact h.store n s u v r c
end
section
variable {P : Program} {ops : Array Oper} {rest : List Oper} {a : Act} {w : World} {Q : Exit → Act → World → Prop} {n d : Nat} {l : FL} {v : Value} {dst : Option Nat} {ty : TypeId} {ps : String} {af : Array Edge} {gd : Option (Nat × Bool)} {x y z : Operand} {t k e : TypeId} {Sw : World → Prop} {K : Act → World → Prop} {m : Nat} {S : List Int}
theorem E.makeMap (f : Fr n a l) : (execOp a.eval ⟨dst,.makeMap t none,ty,ps,af,gd⟩).run P w = .ok (.value (.map (some w.heap.size))) (w.alloc (.map #[] 0)):=by
  simp [execOp]
  rfl
theorem L.makeMap (f : Fr n a l) (hw : Region.wanted ⟨some d, .makeMap t none, ty, ps, af, gd⟩ (yielded ops a.tmps) = true) (j : d < n) (k e : TypeId)
    (c : ∀ a' w' g,IsSet P k e w' g [] → Kept [] w w' → w.heap.size ≤ g → Fr n a' ((d,.map (some g)) :: l) → wpList P ops Q rest a' w') : wpList P ops Q (⟨some d,.makeMap t none,ty,ps,af,gd⟩ :: rest) a w:=
  L.val f hw rfl j (E.makeMap f) fun a' b=>c a' _ _ (IsSet.made w P k e) ⟨rfl,rfl,rfl,by simp,fun i h _=>(Go.MapKept.heap_alloc w _).2 i h⟩ (Nat.le_refl _) b
theorem E.look (f : Fr n a l) (h : IsSet P k e w m S) (c : P.underlying k = some (.int .i64)) (b : P.underlying e = some .bool) (g : P.underlying t = some (.map k e)) (p : ∀ w, (zeroValue e).run P w = .ok (.bool false) w) {i : Int} (j : Ae l x = some (.map (some m))) (o : Ae l y = some (.int .i64 i)) (hi : (Lit.int .i64 i).wf = true) :
    (execOp a.eval ⟨dst,.lookup t x y false,ty,ps,af,gd⟩).run P w = .ok (.value (.bool (decide (i ∈ S)))) w:=by
  simp [execOp,f.ev j,f.ev o,h.look c b g (p w) hi]
theorem E.mapPut (f : Fr n a l) {w' : World} {i : Int} (b : Ae l x = some (.map (some m))) (c : Ae l y = some (.int .i64 i)) (g : Ae l z = some (.bool true)) (h : (Instr.mapUpdate t (.map (some m)) (.int .i64 i) (.bool true)).run P w = .ok () w') :
    (execOp a.eval ⟨dst,.mapUpdate t x y z,ty,ps,af,gd⟩).run P w = .ok .skip w':=by
  simp [execOp,f.ev b,f.ev c,f.ev g,h]
theorem O.mapPut {q : Nat} (f : Fr n a l) (u : ops[q]? = some ⟨none, .mapUpdate t x y z, ty, ps, af, gd⟩) (hw : Region.wanted ⟨none, .mapUpdate t x y z, ty, ps, af, gd⟩ (yielded ops a.tmps) = true) (h : IsSet P k e w m S) (s : P.underlying k = some (.int .i64)) (r : P.underlying e = some .bool) (ht : P.underlying t = some (.map k e)) {i : Int} (hx : Ae l x = some (.map (some m))) (hy : Ae l y = some (.int .i64 i)) (hz : Ae l z = some (.bool true)) (hi : (Lit.int .i64 i).wf = true) (p : S.length < maxLen)
    (c : ∀ w',Kept [m] w w' → Sw w') (o : ∀ a' w',IsSet P k e w' m (G1 i S) → Kept [m] w w' → Fr n a' l → K a' w') : wpOp P ops Q q (fun a w=>Sw w ∧ K a w) a w:=by
  obtain ⟨w',b,r1,g⟩:=h.put s r ht hi p;exact O.act f u rfl hw (E.mapPut f hx hy hz b) (c w' g) fun a' j=>o a' w' r1 g j
theorem E.mapDrop (f : Fr n a l) {w' : World} {i : Int} (b : Ae l x = some (.map (some m))) (c : Ae l y = some (.int .i64 i)) (h : (Builtin.delete_ #[t, k] ty #[.map (some m), .int .i64 i]).run P w = .ok (.tuple #[]) w') :
    (execOp a.eval ⟨dst,.call { callee:=.builtin .delete,args:=#[x,y],argTypes:=#[t,k] },ty,ps,af,gd⟩).run P w = .ok (.value (.tuple #[])) w':=by
  simp [execOp,resolve,invoke,builtin,f.ev b,f.ev c,h]
theorem y2u {i : Int} (h : -9223372036854775808 ≤ i ∧ i ≤ 9223372036854775807) : (Lit.int .i64 i).wf = true:=by simpa [Lit.wf,IntKind.min,IntKind.max,IntKind.signed,IntKind.bits] using h
theorem L.mapDrop (f : Fr n a l) (hw : Region.wanted ⟨none, .call { callee := .builtin .delete, args := #[x, y], argTypes := #[t, k] }, ty, ps, af, gd⟩ (yielded ops a.tmps) = true) (h : IsSet P k e w m S) (j : P.underlying k = some (.int .i64)) (o : P.underlying t = some (.map k e)) {i : Int} (p : Ae l x = some (.map (some m))) (q : Ae l y = some (.int .i64 i)) (hi : (Lit.int .i64 i).wf = true)
    (g : ∀ a' w',IsSet P k e w' m (S.erase i) → Kept [m] w w' → Fr n a' l → wpList P ops Q rest a' w') : wpList P ops Q (⟨none,.call { callee:=.builtin .delete,args:=#[x,y],argTypes:=#[t,k] },ty,ps,af,gd⟩ :: rest) a w:=by
  obtain ⟨w',b,r,s⟩:=h.drop j o hi ty;exact L.drop f hw rfl (E.mapDrop f p q b) fun a' c=>g a' w' r s c
theorem E.lenM (f : Fr n a l) (h : IsSet P k e w m S) (b : P.underlying t = some (.map k e)) (c : Ae l x = some (.map (some m))) :
    (execOp a.eval ⟨dst,.call { callee:=.builtin .len,args:=#[x],argTypes:=#[t] },ty,ps,af,gd⟩).run P w = .ok (.value (.int .i64 S.length)) w:=by
  simp [execOp,resolve,invoke,builtin,f.ev c,h.len b ty]
end
end Go.Hub
namespace Go.Hub
open Go.RowKit
section
variable {P : Program} {a : Act} {w : World} {n : Nat} {l : FL} {fn : Func} {R : Ending → World → Prop}
theorem C.retC (f : Fr n a l) {p : Tmp} {ty : TypeId} (i : fn.results = #[.cell p ty]) {g : Nat} {cs : Array Value} {t : TypeId} {d : TypeDesc} (c : look l p = some (.pointer (some ⟨g, 0, none⟩))) (B : Blk w g t cs)
    (j : P.underlying ty = some d) (b : (match d with | .struct _ | .array _ _=>true | _=>false) = true) (hi : (P.info? ty).map (·.size) = some cs.size) (h : R (.returned (.agg cs)) w) : bodyPost P fn R .ret a w:=
  x3p i d (f.get c) B j b hi f.defers h
theorem C.retCT (f : Fr n a l) {p u : Tmp} {ty : TypeId} (i : fn.results = #[.cell p ty, .tmp u]) {g : Nat} {cs : Array Value} {t : TypeId} {d : TypeDesc} {v : Value} (c : look l p = some (.pointer (some ⟨g, 0, none⟩))) (k : look l u = some v) (B : Blk w g t cs)
    (j : P.underlying ty = some d) (b : (match d with | .struct _ | .array _ _=>true | _=>false) = true) (hi : (P.info? ty).map (·.size) = some cs.size) (h : R (.returned (.tuple #[.agg cs,v])) w) : bodyPost P fn R .ret a w:=
  Tc i d (f.get c) (f.get k) B j b hi f.defers h
end
end Go.Hub
namespace Go.Hub
open Go.RowKit
def MapB (w : World) (k : Nat) : Prop:=∃ es c,w.heap[k]? = some (.map es c)
structure Mod (T : List TypeId) (M : List Nat) (B : Nat) (w w' : World) : Prop where
  os : w'.os = w.os
  tape : w'.tape = w.tape
  output : w'.output = w.output
  size : w.heap.size ≤ w'.heap.size
  block : ∀ k,k < w.heap.size → (k < B ∨ (¬ Typ w k T ∧ ¬ (MapB w k ∧ k ∈ M))) → w'.heap[k]? = w.heap[k]?
section
variable {T T' : List TypeId} {M M' : List Nat} {B B' : Nat} {w w' w'' w0 : World} {L : List Nat} {g : Nat} {t : TypeId} {cs : Array Value}
theorem MapB.of_eq {k : Nat} (h : MapB w k) (b : w'.heap[k]? = w.heap[k]?) : MapB w' k:=by obtain ⟨a,c,h⟩:=h; exact ⟨a,c,b.trans h⟩
theorem Typ.not_map {k : Nat} (h : Typ w k T) : ¬ MapB w k:=by
  obtain ⟨cs,e,f,h,_⟩:=h;rintro ⟨b,c,a⟩;rw [h] at a;cases a
theorem Typ.mono {k : Nat} (h : Typ w k T) (b : ∀ t ∈ T,t ∈ T') : Typ w k T':=by obtain ⟨cs,e,f,h,a⟩:=h; exact ⟨cs,e,f,h,b e a⟩
theorem Blk.typ (h : Blk w g t cs) (a : t ∈ T) : Typ w g T:=⟨cs,t,_,h,a⟩
theorem Blk.not_map (h : Blk w g t cs) : ¬ MapB w g:=(h.typ (T:=[t]) (by simp)).not_map
theorem IsSet.map {P : Program} {k e : TypeId} {m : Nat} {S : List Int} (h : IsSet P k e w m S) : MapB w m:=by
  obtain ⟨f,D,⟨b,a,c,d⟩,r⟩:=h;exact ⟨b,a,c⟩
theorem Mod.refl (T : List TypeId) (M : List Nat) (B : Nat) (w : World) : Mod T M B w w:=⟨rfl,rfl,rfl,Nat.le_refl _,fun _ _ _=>rfl⟩
theorem Mod.mono (h : Mod T M B w w') (i : ∀ t ∈ T,t ∈ T') (f : ∀ m ∈ M,m ∈ M') (n : B' ≤ B) : Mod T' M' B' w w':=
  ⟨h.os,h.tape,h.output,h.size,fun k j a=>h.block k j (by
    rcases a with a | ⟨c,d⟩
    · exact .inl (by omega)
    · exact .inr ⟨fun l=>c (l.mono i),fun b=>d ⟨b.1,f _ b.2⟩⟩)⟩
theorem Mod.trans (h : Mod T M B w w') (k : Mod T M B w' w'') : Mod T M B w w'':=
  ⟨k.os.trans h.os,k.tape.trans h.tape,k.output.trans h.output,Nat.le_trans h.size k.size,fun i c a=>by
    have b:=h.block i c a
    refine (k.block i (Nat.lt_of_lt_of_le c h.size) ?_).trans b
    rcases a with a | ⟨f,j⟩
    · exact .inl a
    · exact .inr ⟨fun l=>f (l.of_eq b.symm),fun d=>j ⟨d.1.of_eq b.symm,d.2⟩⟩⟩
theorem Mod.step (h : Mod T M B w w') (k : Mod T' M' B' w' w'') (c : ∀ t ∈ T',t ∈ T) (b : ∀ m ∈ M',m ∈ M) (a : B ≤ B') : Mod T M B w w'':=h.trans (k.mono c b a)
theorem Mod.o0 (a : Kept [] w w') : Mod T M B w w':=⟨a.os,a.tape,a.output,a.size,fun k h _=>a.block k h (by simp)⟩
theorem Mod.of_kept (a : Kept L w w') (i : ∀ x ∈ L,x < w.heap.size → B ≤ x ∧ (Typ w x T ∨ (MapB w x ∧ x ∈ M))) : Mod T M B w w':=
  ⟨a.os,a.tape,a.output,a.size,fun k h b=>a.block k h fun j=>by
    obtain ⟨l,c⟩:=i k j h
    rcases b with b | ⟨d,f⟩
    · omega
    · exact c.elim d f⟩
theorem Mod.of_blk (b : Kept [g] w w') (h : Blk w g t cs) (a : B ≤ g) (c : t ∈ T) : Mod T M B w w':=.of_kept b fun x d _=>by
  obtain rfl:=List.mem_singleton.1 d
  exact ⟨a,.inl (h.typ c)⟩
theorem Mod.o1 (b : Kept [g] w w') (h : Blk w g t cs) (a : B ≤ g) : Mod [t] M B w w':=.of_blk b h a (by simp)
theorem Mod.kN (h : Mod T M B w0 w) (a : Kept L w w') (c : ∀ x ∈ L,w0.heap.size ≤ x) : Mod T M B w0 w':=
  ⟨a.os.trans h.os,a.tape.trans h.tape,a.output.trans h.output,Nat.le_trans h.size a.size,fun k b d=>
    (a.block k (Nat.lt_of_lt_of_le b h.size) fun f=>by have:=c k f; omega).trans (h.block k b d)⟩
theorem Blk.mod (h : Blk w g t cs) (a : Mod T M B w w') (b : t ∉ T) : Blk w' g t cs:=(a.block g h.lt (.inr ⟨h.not_typ b,fun c=>h.not_map c.1⟩)).trans h
theorem IsSet.mod {P : Program} {k e : TypeId} {m : Nat} {S : List Int} (h : IsSet P k e w m S) (b : Mod T M B w w') (a : m ∉ M) : IsSet P k e w' m S:=
  h.of_block (b.block m h.lt (.inr ⟨fun c=>c.not_map h.map,fun d=>a d.2⟩))
theorem IdB (h : Typ w g [t]) (b : t ∉ T) : ¬ Typ w g T:=by
  obtain ⟨cs,e,f,h,a⟩:=h;obtain rfl:=List.mem_singleton.1 a;exact Hl h b
theorem Own.mod {e : TypeId} {size n : Nat} {v : Value} {xs : List Value} (h : Own w e size v n xs) (f : Mod T M B w w') (c : e ∉ T) : Own w' e size v n xs:=h.of_eq fun k d=>by
  obtain ⟨b,cs,a⟩:=h.blk k d
  exact f.block k b (.inr ⟨Hl a c,fun i=>(Typ.not_map (T:=[e]) ⟨cs,e,_,a,by simp⟩) i.1⟩)
theorem Fresh.mod {e : TypeId} {size n c : Nat} {A : Option Addr} {xs : List Value} (h : Fresh w0 w e size A n c xs) (b : Mod T M B w w') (a : e ∉ T) : Fresh w0 w' e size A n c xs:=⟨h.own.mod b a,h.lo⟩
theorem Bs.mod {E : List TypeId} {A : Option Addr} {n : Nat} {l : List UInt8} (h : Bs E B w A n l) (q : Mod T M B w w') (v : ∀ t ∈ E,t ∉ T) : Bs E B w' A n l:=
  ⟨h.1,fun z=>by
    obtain ⟨b,i,e,p,d,y⟩:=h.2 z
    have o:=q.block b p (d.imp_right fun d=>⟨fun k=>by
      obtain ⟨cs,t,f,s,u⟩:=d
      obtain ⟨r,t',f',c,m⟩:=k
      rw [s] at c
      injection c with c
      injection c with _ h3 _
      subst h3
      exact v _ u m,fun k=>d.not_map k.1⟩)
    exact ⟨b,i,e,Nat.lt_of_lt_of_le p q.size,d.imp_right fun d=>d.of_eq o,fun j x hx=>(World.cell?_of_block (w:=w) (a:=⟨b,i + j,none⟩) o).trans (y j x hx)⟩⟩
theorem Bs.sl {E : List TypeId} {A : Option Addr} {n : Nat} {l : List UInt8} (h : Bs E B w A n l) : Sl w A n 1 (l.map u8):=Sl.of_rds h.rds
theorem Bs.of_fresh {A : Option Addr} {n c : Nat} {l : List UInt8} {e : TypeId} (h : Fresh w0 w e 1 A n c (l.map u8)) : Bs [e] B w A n l:=Bs.oO h.own (by simp)
theorem Hn {e : TypeId} {size n c k : Nat} {A : Option Addr} {xs : List Value} (h : Own w e size (.slice A n c) k xs) {b : Nat} (d : A.map (·.block) = some b) (f : e ∈ T) : Typ w b T:=by
  obtain ⟨_,cs,a⟩:=h.blk b ((Ag A n c b).2 d);exact ⟨cs,e,_,a,f⟩
theorem Mod.of_app {e : TypeId} {size k c m i : Nat} {A f : Option Addr} {xs b : List Value} (h : App w w' e size A k c xs b m f i) (n : Own w e size (.slice A k c) k xs) (j : ∀ a,A = some a → B ≤ a.block) (l : e ∈ T) : Mod T M B w w':=.of_kept h.kept fun x o _=>by
  have d:=(Ag A k c x).1 (by simpa using o)
  refine ⟨?_,.inl (Hn n d l)⟩
  cases A with
  | none=>simp at d
  | some a=>simp at d; subst d; exact j a rfl
theorem App.from {e : TypeId} {size k c m f : Nat} {A d : Option Addr} {xs b : List Value} (h : App w w' e size A k c xs b m d f) (i : ∀ a,A = some a → B ≤ a.block) (hw : B ≤ w.heap.size) : ∀ a,d = some a → B ≤ a.block:=fun a j=>by
  rcases h.where_ a.block (by rw [j]; rfl) with hb | hb
  · cases A with
    | none=>simp at hb
    | some a'=>simp at hb; rw [← hb]; exact i a' rfl
  · omega
theorem Mod.app_new {e : TypeId} {size k c m d : Nat} {A b : Option Addr} {xs a : List Value} (i : Mod T M B w0 w) (h : App w w' e size A k c xs a m b d) (f : Fresh w0 w e size A k c xs) : Mod T M B w0 w':=i.kN h.kept fun x j=>
  f.lo x ((Ag A k c x).1 (by simpa using j))
theorem Fresh.from {e : TypeId} {size n c : Nat} {A : Option Addr} {xs : List Value} (h : Fresh w0 w e size A n c xs) : ∀ a,A = some a → w0.heap.size ≤ a.block:=fun a b=>h.lo a.block (by rw [b]; rfl)
end
end Go.Hub
namespace Go.Hub
open Go.RowKit
def Nd (m : Nat) (l : Array Bool) : Bool:=(List.range m).all fun i=>l.getD i true
def G2 (md : Region.Mode) (ops : Array Oper) (m : Nat) : Bool:=(List.range ops.size).all fun j=>Nat.blt j m || (List.range m).all fun i=>match ops[j]? with | some o=>o.after.any fun e=>Region.binds md e && Nat.beq e.on i | none=>true
def Bg (P : Program) (md : Region.Mode) (ops : Array Oper) (Q : Exit → Act → World → Prop) (S : World → Prop) (m : Nat) : Nat → Array Bool → Act → World → Prop
  | 0,listed,a,w=>Region.ready md ops listed = [] ∧ Q .normal a w
  | fuel + 1, listed, a, w => if Nd m listed = true then wpAnyH P md ops Q (fun _ => True) (fuel + 1) listed a w else
    (Region.ready md ops listed = [] → Q .normal a w) ∧
    ∀ i ∈ Region.ready md ops listed,wpOp P ops Q i (fun a' w'=>S w' ∧ Bg P md ops Q S m fuel (listed.setIfInBounds i true) a' w') a w
section
variable {P : Program} {ops : Array Oper} {Q : Exit → Act → World → Prop} {md : Region.Mode} {S : World → Prop} {m : Nat}
theorem N1 : ∀ (fuel : Nat) (listed : Array Bool) (a : Act) (w : World), Bg P md ops Q S m fuel listed a w → wpAny P md ops Q fuel listed a w
  | 0,_,_,_,h=>h
  | fuel + 1,listed,a,w,h=>by
    unfold Bg at h
    split at h
    · exact wpAny_of_held _ _ _ _ h
    · exact ⟨h.1,fun i hi=>wpOp_mono (fun a' w' h'=>N1 fuel _ a' w' h'.2) (h.2 i hi)⟩
theorem K8 {l : Array Bool} (h : Nd m l = true) {i : Nat} (hi : i < m) : l.getD i true = true:=by
  unfold Nd at h;exact List.all_eq_true.1 h i (List.mem_range.2 hi)
theorem Td (h : G2 md ops m = true) {i j : Nat} {o : Oper} (hi : i < m) (k : m ≤ j) (d : ops[j]? = some o) : ∃ e ∈ o.after,Region.binds md e = true ∧ e.on = i:=by
  unfold G2 at h;have b:=List.all_eq_true.1 h j (List.mem_range.2 (Array.getElem?_eq_some_iff.1 d).1)
  have f : Nat.blt j m = false:=by
    cases a : Nat.blt j m
    · rfl
    · have := Nat.le_of_ble_eq_true a
      omega
  rw [f,Bool.false_or] at b;have c:=List.all_eq_true.1 b i (List.mem_range.2 hi);rw [d] at c;obtain ⟨e,g,a⟩:=Array.any_eq_true'.1 c;rw [Bool.and_eq_true] at a;exact ⟨e,g,a.1,Nat.eq_of_beq_eq_true a.2⟩
theorem Te {i : Nat} {z : Oper} {v : Value} (hi : ops[i]? = some z) (t : ∀ (j : Nat) (o : Oper) cs b, ops[j]? = some o → o.op ≠ .select cs b)
    (hQ : ∀ c a w,Q (.panic c) (a.put z.dst v) w → Q (.panic c) a w) (x : i < m) (a2 : G2 md ops m = true) :
    ∀ (fuel : Nat) (d : Array Bool) (a : Act) (w : World),
      (∀ j oj,ops[j]? = some oj → j ≠ i → d.getD j true = false → (∀ e ∈ oj.after,Region.binds md e = true → e.on ≠ i) → z.apart ops oj = true) →
      i ∈ Region.ready md ops d → YieldsIf P ops S z v a → S w →
      Bg P md ops Q S m fuel (d.setIfInBounds i true) (a.put z.dst v) w → Bg P md ops Q S m (fuel + 1) d a w:=by
  intro fuel
  induction fuel with
  | zero=>
    intro d a w _ r hy hS H
    have y : ¬ Nd m d = true:=fun hu=>by
      have g:=K8 hu x;rw [(mem_ready.1 r).1] at g;cases g
    unfold Bg;rw [if_neg y];refine ⟨fun h=>(by rw [h] at r; cases r),fun j hj=>?_⟩
    by_cases f : j = i
    · subst f; exact hy.wpOp hi hS ⟨hS,H⟩
    · have := ready_mono hj f
      rw [H.1] at this;cases this
  | succ fuel ih=>
    intro d a w l r hy hS H
    have y : ¬ Nd m d = true:=fun hu=>by
      have g:=K8 hu x;rw [(mem_ready.1 r).1] at g;cases g
    unfold Bg;rw [if_neg y];refine ⟨fun h=>(by rw [h] at r; cases r),fun j hj=>?_⟩
    by_cases f : j = i
    · subst f; exact hy.wpOp hi hS ⟨hS,H⟩
    · obtain ⟨n, oj, q, a1⟩ := mem_ready.1 hj
      have s : ∀ e ∈ oj.after,Region.binds md e = true → e.on ≠ i:=fun e he hb u=>by
        have g:=a1 e he hb;have h0:=(mem_ready.1 r).1;rw [u] at g
        rcases Nat.lt_or_ge i d.size with h' | h'
        · simp [h'] at h0 g; rw [h0] at g; cases g
        · simp [Array.getElem?_eq_none h'] at g
      have ae : j < m:=by
        rcases Nat.lt_or_ge j m with h | h
        · exact h
        · obtain ⟨e, he, hb, u⟩ := Td a2 x h q
          exact absurd u (s e he hb)
      have a6 : ¬ Nd m (d.setIfInBounds i true) = true:=fun hu=>by
        have g:=K8 hu ae;rw [getD_set_ne true (Ne.symm f),n] at g;cases g
      unfold Bg at H;rw [if_neg a6] at H;have g:=H.2 j (ready_mono hj f);have h2:=wpOp_putIf q (l j oj q f n s) (fun cs b=>t i z cs b hi) (fun cs b=>t j oj cs b q) hQ hy g
      have p : ∀ k ok, ops[k]? = some ok → k ≠ i → (d.setIfInBounds j true).getD k true = false →
          (∀ e ∈ ok.after,Region.binds md e = true → e.on ≠ i) → z.apart ops ok = true:=fun k ok hk af a5 ag=>by
        refine l k ok hk af ?_ ag
        by_cases a3 : j = k
        · subst a3; exact n
        · rw [getD_set_ne true a3] at a5; exact a5
      refine wpOp_mono (fun a' w' h3=>⟨h3.2.1,ih (d.setIfInBounds j true) a' w' p (ready_mono r (Ne.symm f)) h3.1 h3.2.1 ?_⟩) h2;rw [Array.setIfInBounds_comm _ _ f];exact h3.2.2
theorem Un {i : Nat} {d : Oper} {v : Value} {fuel : Nat} {b : Array Bool} {a : Act} {w : World} (hi : ops[i]? = some d) (f : (Nat.blt i m && G2 md ops m) = true)
    (n : Region.noSelect ops = true) (k : Region.free md ops b i = true) (l : (Region.ready md ops b).contains i = true)
    (g : ∀ c a w,Q (.panic c) (a.put d.dst v) w → Q (.panic c) a w) (o : YieldsIf P ops S d v a) (j : S w)
    (h : Bg P md ops Q S m fuel (b.setIfInBounds i true) (a.put d.dst v) w) : Bg P md ops Q S m (fuel + 1) b a w:=
  Te hi (Region.noSelect_spec n) g (Nat.le_of_ble_eq_true (Bool.and_eq_true _ _ ▸ f).1) (Bool.and_eq_true _ _ ▸ f).2 fuel b a w (Region.free_spec hi k) (by simpa using l) o j h
theorem Jp {d : List Nat} {fuel : Nat} {b : Array Bool} {a : Act} {w : World} (j : Nd m b = false) (f : Region.ready md ops b = d) (c : d ≠ [])
    (h : ∀ i ∈ d,wpOp P ops Q i (fun a' w'=>S w' ∧ Bg P md ops Q S m fuel (b.setIfInBounds i true) a' w') a w) : Bg P md ops Q S m (fuel + 1) b a w:=by
  unfold Bg;rw [if_neg (by rw [j]; simp)];exact ⟨fun g=>absurd (f ▸ g) c,f ▸ h⟩
theorem RB.stop {fuel : Nat} {b : Array Bool} {a : Act} {w : World} (c : Nd m b = true) (h : wpAnyH P md ops Q (fun _=>True) (fuel + 1) b a w) : Bg P md ops Q S m (fuel + 1) b a w:=by
  unfold Bg;rw [if_pos c];exact h
end
section
variable {P : Program} {ops : Array Oper} {Q : Exit → Act → World → Prop} {md : Region.Mode} {S : World → Prop} {a : Act} {w w' : World} {n d : Nat} {l : FL} {v : Value} {o : Oper} {m : Nat}
theorem RB.begin {id : Nat} (m : Nat) (b : P.follows .mixedOrders = true) (c : S (w.drewN 1))
    (h : Bg P .any ops Q S m ops.size (Array.replicate ops.size false) a (w.drewN 1)) : (Code.region id ops true).wp P Q a w:=wp_region_any b (N1 _ _ _ _ h)
theorem RB.take (i : Nat) {fuel : Nat} {b : Array Bool} (f : Fr n a l) (hi : ops[i]? = some o) (g : o.dst = some d) (s : d < n) (q : (Nat.blt i m && G2 md ops m) = true) (x : Region.noSelect ops = true) (r : Region.free md ops b i = true)
    (t : (Region.ready md ops b).contains i = true) (k : ∀ c (a : Act) (u : Value) w,Q (.panic c) (a.put (some d) u) w → Q (.panic c) a w) (hw : Region.wanted o (yielded ops a.tmps) = true) (p : S w)
    (y : ∀ w,S w → (execOp a.eval o).run P w = .ok (.value v) w)
    (j : ∀ a',Fr n a' ((d,v) :: l) → Bg P md ops Q S m fuel (b.setIfInBounds i true) a' w) : Bg P md ops Q S m (fuel + 1) b a w:=by
  refine Un hi q x r t (v:=v) (fun c a w h=>k c a v w (by rwa [g] at h)) (.inl ⟨hw,y⟩) p ?_;rw [g];exact j _ (f.put d v s)
theorem RB.call (i : Nat) {fuel : Nat} {b : Array Bool} (f : Fr n a l) (hi : ops[i]? = some o) (t : o.dst = some d) (u : d < n) (x : Nd m b = false) (g : Region.ready md ops b = [i]) (hw : Region.wanted o (yielded ops a.tmps) = true)
    {fn : Nat} {c : Array Value} (h : (execOp a.eval o).run P w = .ok (.enter fn c) w) {R : Ending → World → Prop} (s : Calls P fn c w R)
    (q : ∀ e w',R e w' → ∃ v,e = .returned v ∧ S w' ∧ ∀ a',Fr n a' ((d,v) :: l) → Bg P md ops Q S m fuel (b.setIfInBounds i true) a' w') : Bg P md ops Q S m (fuel + 1) b a w:=by
  refine Jp x g (by simp) ?_;intro j k;simp only [List.mem_singleton] at k;subst k;unfold wpOp;simp only [hi,hw,if_true];refine .inl ?_;unfold Oper.wp;rw [h];refine Calls.mono s ?_;intro e w' g;obtain ⟨v,rfl,r,p⟩:=q e w' g;show S w' ∧ Bg P md ops Q S m fuel (b.setIfInBounds j true) (a.put o.dst v) w';rw [t];exact ⟨r,p _ (f.put d v u)⟩
theorem RB.one (i : Nat) {fuel : Nat} {b : Array Bool} (g : Nd m b = false) (f : Region.ready md ops b = [i]) (h : wpOp P ops Q i (fun a w=>S w ∧ Bg P md ops Q S m fuel (b.setIfInBounds i true) a w) a w) : Bg P md ops Q S m (fuel + 1) b a w:=
  Jp g f (by simp) fun j c=>by
    simp only [List.mem_singleton] at c
    subst c
    exact h
theorem RB.two (i j : Nat) {fuel : Nat} {b : Array Bool} (p : Nd m b = false) (g : Region.ready md ops b = [i, j]) (h : wpOp P ops Q i (fun a w => S w ∧ Bg P md ops Q S m fuel (b.setIfInBounds i true) a w) a w)
    (f : wpOp P ops Q j (fun a w=>S w ∧ Bg P md ops Q S m fuel (b.setIfInBounds j true) a w) a w) : Bg P md ops Q S m (fuel + 1) b a w:=
  Jp p g (by simp) fun k c=>by
    simp only [List.mem_cons,List.not_mem_nil,or_false] at c
    rcases c with rfl | rfl
    · exact h
    · exact f
end
section
variable {P : Program} {ops : Array Oper} {Q : Exit → Act → World → Prop} {a : Act} {w : World} {n d : Nat} {l : FL} {v : Value} {ty : TypeId} {ps : String} {af : Array Edge} {gd : Option (Nat × Bool)} {x y : Operand} {t : TypeId} {K : Act → World → Prop} {i : Nat}
theorem OT.store (f : Fr n a l) (b : ops[i]? = some ⟨none, .store t x y, ty, ps, af, gd⟩) (hw : Region.wanted ⟨none, .store t x y, ty, ps, af, gd⟩ (yielded ops a.tmps) = true) (hi : (P.info? t).map (·.size) = some 1) {g o : Nat} {e : TypeId} {cs : Array Value} (m : Ae l x = some (.pointer (some ⟨g, o, none⟩))) (p : Ae l y = some v) (h : v.oneCell' = true)
    (B : Blk w g e cs) (k : o < cs.size) (j : ∀ a' w',Fr n a' l → Blk w' g e (cs.setIfInBounds o v) → Kept [g] w w' → K a' w') : wpOp P ops Q i (fun a w=>True ∧ K a w) a w:=
  O.act (S:=fun _=>True) f b rfl hw (E.store f hi m p h (B.cell_ (Array.getElem?_eq_getElem k)) (B.frozen o)) trivial fun a' c=>j a' _ c (B.set_ o v) (Bj w g o v)
end
theorem Mod.oO {T : List TypeId} {M : List Nat} {B : Nat} {w w' : World} {e : TypeId} {size n c : Nat} {A : Option Addr} {xs : List Value} (g : Kept (Value.slice A n c).ownBlock.toList w w') (h : Own w e size (.slice A n c) n xs) (d : ∀ a,A = some a → B ≤ a.block) (f : e ∈ T) : Mod T M B w w':=.of_kept g fun x i _=>by
  have b:=(Ag A n c x).1 (by simpa using i)
  refine ⟨?_,.inl (Hn h b f)⟩
  cases A with
  | none=>simp at b
  | some a=>simp at b; subst b; exact d a rfl
theorem Bc {w : World} {e t : TypeId} {size n c k g : Nat} {A : Option Addr} {xs : List Value} {cs : Array Value} (f : Own w e size (.slice A n c) k xs) (h : Blk w g t cs) (b : t ≠ e) : g ∉ (Value.slice A n c).ownBlock.toList:=fun i=>by
  obtain ⟨_,d,a⟩:=f.blk g (by simpa using i)
  unfold Blk at h
  rw [h] at a
  injection a with a
  injection a with _ h3 _
  exact b h3
theorem F3 {w : World} {e : TypeId} {size n c k g : Nat} {A : Option Addr} {xs : List Value} (a : Own w e size (.slice A n c) k xs) (h : w.heap.size ≤ g) : g ∉ (Value.slice A n c).ownBlock.toList:=fun b=>by
  have:=(a.blk g (by simpa using b)).1
  omega
end Go.Hub
namespace Go.Hub
open Go.RowKit
theorem Mod.of_own1 {T : List TypeId} {M : List Nat} {B : Nat} {w w' : World} {e : TypeId} {size n c b d k : Nat} {A : Option Addr} {xs : List Value} (f : A = some ⟨b,d,none⟩) (i : Kept [b] w w') (j : Own w e size (.slice A n c) k xs) (g : ∀ a,A = some a → B ≤ a.block) (h : e ∈ T) : Mod T M B w w':=.of_kept i fun x l _=>by
  obtain rfl:=List.mem_singleton.1 l
  exact ⟨g _ f,.inl (Hn j (by rw [f]; rfl) h)⟩
section
variable {P : Program} {ops : Array Oper} {rest : List Oper} {a : Act} {w : World} {Q : Exit → Act → World → Prop} {n d : Nat} {l : FL} {v : Value} {ty : TypeId} {ps : String} {af : Array Edge} {gd : Option (Nat × Bool)} {x y : Operand} {t : TypeId}
theorem L.storeO (f : Fr n a l) (hw : Region.wanted ⟨none, .store t x y, ty, ps, af, gd⟩ (yielded ops a.tmps) = true) (hi : (P.info? t).map (·.size) = some 1) {b g o j : Nat} {e : TypeId} {size k c : Nat} {A : Option Addr} {xs : List Value} (r : A = some ⟨b, g, none⟩) (O : Own w e size (.slice A k c) k xs) (hx : Ae l x = some (.pointer (some ⟨b, o, none⟩))) (z : o = g + j) (u : j < xs.length) (hy : Ae l y = some v) (i : v.oneCell' = true)
    (s : ∀ a' w',Fr n a' l → Own w' e size (.slice A k c) k (xs.set j v) → Kept [b] w w' → wpList P ops Q rest a' w') : wpList P ops Q (⟨none,.store t x y,ty,ps,af,gd⟩ :: rest) a w:=by
  subst z;obtain ⟨⟨a2,m⟩,p,q⟩:=O.set_ r u v;exact L.act f hw rfl (E.store f hi hx hy i m p) fun a' h=>s a' _ h q (Bj w b _ v)
end
section
variable {M : Type} (cell : M → List Value) (size : Nat) (hs : ∀ m,(cell m).length = size)
include hs
theorem Iv : ∀ (l : List M) (i : Nat), (l.take i).flatMap cell = (l.flatMap cell).take (i * size)
  | [],i=>by simp
  | a :: r,0=>by simp
  | a :: r,i + 1=>by
    have h1 : (cell a).length ≤ (i + 1) * size:=by rw [hs,Nat.add_mul]; omega
    have b : (i + 1) * size - (cell a).length = i * size:=by rw [hs,Nat.add_mul]; omega
    rw [List.take_succ_cons,List.flatMap_cons,List.flatMap_cons,Iv r i,List.take_append,b,List.take_of_length_le h1]
theorem Iw : ∀ (l : List M) (i : Nat), (l.drop i).flatMap cell = (l.flatMap cell).drop (i * size)
  | [],i=>by simp
  | a :: r,0=>by simp
  | a :: r,i + 1=>by
    have h1 : (cell a).length ≤ (i + 1) * size:=by rw [hs,Nat.add_mul]; omega
    have b : (i + 1) * size - (cell a).length = i * size:=by rw [hs,Nat.add_mul]; omega
    rw [List.drop_succ_cons,List.flatMap_cons,Iw r i,List.drop_append,b,List.drop_of_length_le h1,List.nil_append]
end
end Go.Hub
namespace Go.Hub
open Go.RowKit
section
variable {P : Program} {ops : Array Oper} {a : Act} {w : World} {Q : Exit → Act → World → Prop} {n d : Nat} {l : FL} {v : Value} {ty : TypeId} {ps : String} {af : Array Edge} {gd : Option (Nat × Bool)} {x y : Operand} {t k e : TypeId} {Sw : World → Prop} {K : Act → World → Prop} {m : Nat} {S : List Int}
theorem O.drop {i : Nat} {o : Oper} {w' : World} (f : Fr n a l) (hi : ops[i]? = some o) (g : o.dst = none) (hw : Region.wanted o (yielded ops a.tmps) = true)
    (h : (execOp a.eval o).run P w = .ok (.value v) w') (c : Sw w') (b : ∀ a',Fr n a' l → K a' w') : wpOp P ops Q i (fun a w=>Sw w ∧ K a w) a w:=by
  unfold wpOp;simp only [hi,hw,if_true];refine .inl ?_;unfold Oper.wp;rw [h];show Sw w' ∧ K (a.put o.dst v) w';rw [g];exact ⟨c,b _ f⟩
theorem O.mapDrop {q : Nat} (f : Fr n a l) (r : ops[q]? = some ⟨none, .call { callee := .builtin .delete, args := #[x, y], argTypes := #[t, k] }, ty, ps, af, gd⟩) (hw : Region.wanted ⟨none, .call { callee := .builtin .delete, args := #[x, y], argTypes := #[t, k] }, ty, ps, af, gd⟩ (yielded ops a.tmps) = true) (h : IsSet P k e w m S) (p : P.underlying k = some (.int .i64)) (s : P.underlying t = some (.map k e)) {i : Int} (u : Ae l x = some (.map (some m))) (z : Ae l y = some (.int .i64 i)) (hi : (Lit.int .i64 i).wf = true)
    (c : ∀ w',Kept [m] w w' → Sw w') (o : ∀ a' w',IsSet P k e w' m (S.erase i) → Kept [m] w w' → Fr n a' l → K a' w') : wpOp P ops Q q (fun a w=>Sw w ∧ K a w) a w:=by
  obtain ⟨w',b,r1,g⟩:=h.drop p s hi ty;exact O.drop f r rfl hw (E.mapDrop f u z b) (c w' g) fun a' j=>o a' w' r1 g j
end
end Go.Hub
namespace Go.Hub
open Go.RowKit
section
variable {P : Program} (w : World)
theorem Ws (t ty e : TypeId) (i : TypeInfo) (size : Nat) (ht : P.underlying t = some (.slice e)) (hi : P.info? e = some i) (z : i.size = size) (g d n cap k : Nat) (xs : List Value) (f : Own w e size (.slice (some ⟨g, d, none⟩) n cap) n xs)
    (B : Nat) (A : Option Addr) (m c : Nat) (a : List Value) (hr : Rds w B size A m a) (h1 : ∀ u ∈ a,u.oneCell' = true) (hk : n + m = k) (l : k ≤ cap) :
    ∃ w',(Builtin.append_ #[t,t] ty #[.slice (some ⟨g,d,none⟩) n cap,.slice A m c]).run P w = .ok (.slice (some ⟨g,d,none⟩) k cap) w' ∧ Own w' e size (.slice (some ⟨g,d,none⟩) k cap) k (xs ++ a) ∧ Kept [g] w w':=by
  subst hk;have y:=f
  rcases f.2 with ⟨hv,_⟩ | ⟨g',aj,af,q,hv,hg,ab,a9,aw,hc⟩
  · cases hv
  injection hv with e1 e2 e3
  injection e1 with e1
  injection e1 with e4 e5
  subst e4 e5 e3
  rcases A with _ | ad
  · have hm : m = 0:=by
      rcases Nat.eq_zero_or_pos m with r | r
      · exact r
      · obtain ⟨b, d, h, _⟩ := hr.2 r
        cases h
    subst hm;have hn : a = []:=List.eq_nil_of_length_eq_zero (by simpa using hr.1);subst hn;refine ⟨w,?_,by simpa using y,Kept.refl _ _⟩;simp [Builtin.append_,run_underlying ht,sizeOf,typeInfo,hi,Builtin.lenOf,Builtin.firstCells,ab,storeCells]
  · have x : ∀ j u,a[j]? = some u → w.cell? (ad.add j) = some u:=by
      intro j u o
      rcases Nat.eq_zero_or_pos m with r | r
      · subst r
        have hn : a = []:=List.eq_nil_of_length_eq_zero (by simpa using hr.1);subst hn;simp at o
      · obtain ⟨b, d, h, _, a8⟩ := hr.2 r
        injection h with h
        subst h;rw [B9];exact a8 j u o
    have p : a.length = m * size:=hr.1;have ah : n * size + m * size ≤ cap * size:=by rw [← Nat.add_mul]; exact Nat.mul_le_mul_right _ l
    subst z;have s : ∀ j,j < a.length → w.cell? ⟨g,d + n * i.size + j,none⟩ = q[d + n * i.size + j]?:=fun j v=>cell_of_row w g _ q e (0,0) hg
    have a7 := run_append_room_cells (P := P) w t ty e i ht hi g d n cap ad m c a p x h1 l
      (fun j v=>by rw [s j v,Array.getElem?_eq_getElem (by omega)]; rfl) (fun j v=>by simp [World.frozen?,hg])
    obtain ⟨a0,a1,a2,a3,a4⟩:=Dd g a (d + n * i.size) w q e (0,0) hg;obtain ⟨b1,b2,b3,b4⟩:=Df g a (d + n * i.size) w
    refine ⟨_, a7, ⟨by rw [List.length_append, f.1, p, Nat.add_mul], .inr ⟨g, d, cap, a0, rfl, a1, l, a9, by omega, fun j u o => ?_⟩⟩,
      ⟨b1,b2,b3,by omega,fun k hk hn=>De g _ _ w k (by simpa using hn)⟩⟩
    rcases Nat.lt_or_ge j xs.length with v | v
    · rw [List.getElem?_append_left v] at o
      rw [a3 _ (by have:=f.1; omega)];exact hc j u o
    · rw [List.getElem?_append_right v] at o
      have ax : j - xs.length < a.length:=by
        rcases Nat.lt_or_ge (j - xs.length) a.length with h | h
        · exact h
        · rw [List.getElem?_eq_none h] at o; cases o
      have:=a4 (j - xs.length) u o (by have:=f.1; omega);rw [show d + n * i.size + (j - xs.length) = d + j from by have:=f.1; omega] at this;exact this
theorem Qs {o : Oper} {a : Act} {K : Act → World → Prop} {Q : Exit → Act → World → Prop} (s x : Operand) (t : TypeId)
    (z : o.op = .call { callee:=.builtin .append,args:=#[s,x],argTypes:=#[t,t] })
    (e : TypeId) (i : TypeInfo) (size : Nat) (ht : P.underlying t = some (.slice e)) (hi : P.info? e = some i) (j : i.size = size) (g d n cap k : Nat) (xs : List Value) (hs : a.eval s = .slice (some ⟨g,d,none⟩) n cap)
    (l : Own w e size (.slice (some ⟨g,d,none⟩) n cap) n xs)
    (B : Nat) (A : Option Addr) (m c : Nat) (b : List Value) (hx : a.eval x = .slice A m c) (hr : Rds w B size A m b) (q : ∀ u ∈ b,u.oneCell' = true) (y : n + m = k) (f : k ≤ cap)
    (h : ∀ w',Own w' e size (.slice (some ⟨g,d,none⟩) k cap) k (xs ++ b) → Kept [g] w w' → K (a.put o.dst (.slice (some ⟨g,d,none⟩) k cap)) w') : o.wp P a w K Q:=by
  obtain ⟨w',p,r,v⟩:=Ws (P:=P) w t o.type e i size ht hi j g d n cap k xs l B A m c b hr q y f;unfold Oper.wp execOp;simp only [z,resolve,invoke,builtin,Sem.run_bind,Sem.run_pure,Result.andThen_ok,List.map_toArray,List.map_cons,List.map_nil,hs,hx,p];exact h w' r v
theorem H5 {p : Array Oper} {o : Oper} {a : Act} {K : Act → World → Prop} {Q : Exit → Act → World → Prop} {E : Prop} (q : o.guard = none) (s x : Operand) (t : TypeId)
    (y : o.op = .call { callee:=.builtin .append,args:=#[s,x],argTypes:=#[t,t] })
    (e : TypeId) (i : TypeInfo) (size : Nat) (ht : P.underlying t = some (.slice e)) (hi : P.info? e = some i) (j : i.size = size) (g d n cap k : Nat) (xs : List Value) (hs : a.eval s = .slice (some ⟨g,d,none⟩) n cap)
    (l : Own w e size (.slice (some ⟨g,d,none⟩) n cap) n xs)
    (B : Nat) (A : Option Addr) (m c : Nat) (b : List Value) (hx : a.eval x = .slice A m c) (z : Rds w B size A m b) (r : ∀ u ∈ b,u.oneCell' = true) (v : n + m = k) (f : k ≤ cap)
    (h : ∀ w',Own w' e size (.slice (some ⟨g,d,none⟩) k cap) k (xs ++ b) → Kept [g] w w' → K (a.put o.dst (.slice (some ⟨g,d,none⟩) k cap)) w') :
    if Region.wanted o (yielded p a.tmps) = true then Oper.wp P o a w K Q else E:=by
  have hw : Region.wanted o (yielded p a.tmps) = true:=by simp [Region.wanted,q]
  rw [if_pos hw];exact Qs w s x t y e i size ht hi j g d n cap k xs hs l B A m c b hx z r v f h
theorem Jh (t e ty : TypeId) (z : Value) (l : P.underlying t = some (.slice e)) (m : ∀ w, (zeroValue e).run P w = .ok z w) (g : ∀ u ∈ z.cells.toList, u.oneCell' = true) (b o c : Nat)
    (h : ∀ j,j < z.cells.size → (w.cell? ⟨b,o + j,none⟩).isSome = true) (k : ∀ j,j < z.cells.size → w.frozen? ⟨b,o + j,none⟩ = false) :
    (Builtin.clear_ #[t] ty #[.slice (some ⟨b,o,none⟩) 1 c]).run P w = .ok (.tuple #[]) (w.setCells b o z.cells.toList):=by
  have f : (Builtin.zeroCells z.cells 1).toList = z.cells.toList:=by
    simp only [Builtin.zeroCells,Nat.one_mul]
    apply List.ext_getElem
    · simp
    · intro i g d
      simp at d;simp [Nat.mod_eq_of_lt d,d]
  have a:=run_storeCells_cells (P:=P) b o z.cells.toList 0 w (by simpa using h) (by simpa using k) g;simp only [Nat.add_zero] at a;simp [Builtin.clear_,run_underlying l,m,f,a]
end
section
variable {w : World} {e : TypeId} {size n c g off : Nat} {xs : List Value}
theorem Own.past (h : Own w e size (.slice (some ⟨g, off, none⟩) n c) n xs) {o : Nat} (ho : off + n * size ≤ o) (b : List Value) :
    Own (w.setCells g o b) e size (.slice (some ⟨g,off,none⟩) n c) n xs ∧ Kept [g] w (w.setCells g o b):=by
  obtain ⟨t,v,x,b4⟩:=Df g b o w;have K : Kept [g] w (w.setCells g o b):=⟨t,v,x,by omega,fun k hk hn=>De g _ _ w k (by simpa using hn)⟩;refine ⟨⟨h.1,?_⟩,K⟩
  rcases h.2 with ⟨l,_⟩ | ⟨g',q,m,d,l,hg,i,f,z,y⟩
  · cases l
  injection l with e1 e2 e3
  injection e1 with e1
  injection e1 with e4 e5
  subst e4 e5 e3;obtain ⟨a,r,a2,s,a4⟩:=Dd g b o w d e (0,0) hg;refine .inr ⟨g,off,c,a,rfl,r,i,f,by omega,fun j u p=>?_⟩;have hj : j < xs.length:=(List.getElem?_eq_some_iff.1 p).1;rw [s _ (by have:=h.1; omega)];exact y j u p
theorem Own.room (h : Own w e size (.slice (some ⟨g,off,none⟩) n c) n xs) {j : Nat} (q : j < c * size) : (w.cell? ⟨g,off + j,none⟩).isSome = true ∧ w.frozen? ⟨g,off + j,none⟩ = false:=by
  rcases h.2 with ⟨b,_⟩ | ⟨o,i,d,a,b,f,m,k,l,p⟩
  · cases b
  injection b with e1 e2 e3
  injection e1 with e1
  injection e1 with e4 e5
  subst e4 e5 e3;rw [cell_of_row w g _ a e (0,0) f,Array.getElem?_eq_getElem (by omega)];exact ⟨rfl,by simp [World.frozen?,f]⟩
end
end Go.Hub
namespace Go.Hub
open Go.RowKit Go.Lib
section
variable {P : Program} (w : World)
theorem N2 (t u ty e : TypeId) (i : TypeInfo) (ht : P.underlying t = some (.slice e)) (d : P.underlying u = some .string) (hi : P.info? e = some i) (hz : i.zero = some (.int .u8 0))
    (c : i.size = 1) (a7 : i.bytes = 1) (v : Value) (n : Nat) (xs : List Value) (l : Own w e 1 v n xs) (s : ByteArray) (x : n + s.size ≤ maxLen) (q : n + s.size ≤ 140737488355328) :
    ∃ v' w', (Builtin.append_ #[t, u] ty #[v, .string s]).run P w = .ok v' w' ∧ Own w' e 1 v' (n + s.size) (xs ++ strCells s) ∧ Kept v.ownBlock.toList w w' ∧
      (∀ k,v'.ownBlock = some k → v.ownBlock = some k ∨ w.heap.size ≤ k):=by
  have ab : n + s.size ≤ 9223372036854775807:=by simp only [maxLen] at x; omega
  have r : xs.length = n:=by simpa using l.1
  rcases l.2 with ⟨rfl,rfl⟩ | ⟨g,a,b,p,rfl,hg,ay,ac,au,hc⟩
  · have hx : xs = [] := List.eq_nil_of_length_eq_zero (by simpa using l.1)
    subst hx;obtain ⟨v',w',o,ho,ae,_⟩:=run_append_own_string (P:=P) w w.heap.size t u ty e i ht d hi hz c a7 (.slice none 0 0) 0 [] (World.ownsRow_nil _ _ _ _) s x q (Nat.le_refl _);exact ⟨v',w',o,Own.of_row ho,Jn ae,fun k hk=>.inr (ho.lt k hk).1⟩
  · by_cases m : n + s.size ≤ b
    · have y : ∀ j, j < (strCells s).length → w.cell? ⟨g, a + n * 1 + j, none⟩ = p[a + n * 1 + j]? := fun j z => cell_of_row w g _ p e (0, 0) hg
      have f:=strCells_length s;have a9:=run_storeCells_cells (P:=P) g (a + n) (strCells s) 0 w (fun j z=>by have:=y j z; rw [Nat.mul_one] at this; rw [Nat.add_zero,this,Array.getElem?_eq_getElem (by omega)]; rfl) (fun j z=>by simp [World.frozen?,hg]) (strCells_oneCell s);simp only [Nat.add_zero] at a9;have hf:=run_firstCells_string (P:=P) w 1 s
      have o : (Builtin.append_ #[t,u] ty #[.slice (some ⟨g,a,none⟩) n b,.string s]).run P w = .ok (.slice (some ⟨g,a,none⟩) (n + s.size) b) (w.setCells g (a + n) (strCells s)):=by
        simp [Builtin.append_,run_underlying ht,run_underlying d,sizeOf,typeInfo,hi,c,Builtin.lenOf,m,hf,Addr.add_lit,a9]
      obtain ⟨a6,a1,a2,a3,a4⟩:=Dd g (strCells s) (a + n) w p e (0,0) hg;obtain ⟨b1,b2,b3,b4⟩:=Df g (strCells s) (a + n) w
      refine ⟨_, _, o, ⟨by rw [List.length_append, r, f, Nat.mul_one], .inr ⟨g, a, b, a6, rfl, a1, m, ac, by omega, fun j u d => ?_⟩⟩,
          ⟨b1,b2,b3,by omega,fun k hk hn=>De g _ _ w k (by simpa [Value.ownBlock] using hn)⟩,fun k hk=>.inl hk⟩
      rcases Nat.lt_or_ge j xs.length with z | z
      · rw [List.getElem?_append_left z] at d
        rw [a3 _ (by omega)];exact hc j u d
      · rw [List.getElem?_append_right z] at d
        have aw : j - xs.length < (strCells s).length:=by
          rcases Nat.lt_or_ge (j - xs.length) (strCells s).length with h | h
          · exact h
          · rw [List.getElem?_eq_none h] at d; cases d
        have:=a4 (j - xs.length) u d (by omega);rw [show a + n + (j - xs.length) = a + j from by omega] at this;exact this
    · have a0 : ∀ j u,xs[j]? = some u → w.cell? ((⟨g,a,none⟩ : Addr).add j) = some u:=fun j u d=>by
        rw [B9,cell_of_row w g (a + j) p e (0,0) hg];exact hc j u d
      have hr:=run_append_grow_string (P:=P) w t u ty e i (.int .u8 0) ht d hi hz ⟨g,a,none⟩ n b xs (by rw [c]; simpa using r) a0 s (by omega) (by omega) (by rw [a7]; exact growslice_fits (by omega) (by omega));have ad:=grownCap_ge w (n + s.size) b e;have a8 : grownCap w (n + s.size) b e ≤ maxLen:=grownCap_le_maxLen w (n + s.size) b e x;have f : (xs ++ strCells s).length = (n + s.size) * 1:=by rw [List.length_append,r,strCells_length,Nat.mul_one]
      refine ⟨_,_,hr,⟨f,.inr ⟨w.heap.size,0,_,_,rfl,heap_alloc_new w.drew _,ad,a8,?_,fun j u d=>?_⟩⟩,((Kept.refl _ w).drewN 1).alloc _,fun k hk=>.inr ?_⟩
      · have ag : (Value.int IntKind.u8 0).cells.size = 1 := rfl
        simp only [Array.size_append,List.size_toArray,size_zeroCells,ag,r,strCells_length];omega
      · rw [Nat.zero_add, ← Array.getElem?_toList, Array.toList_append, Array.toList_append, List.getElem?_append_left]
        · exact d
        · have := (List.getElem?_eq_some_iff.1 d).1
          simpa using this
      · simp [Value.ownBlock] at hk
        omega
theorem Uo (s : ByteArray) : strCells s = s.toList.map u8:=by
  rw [ByteArray.toList_eq]
  rfl
end
section
variable {P : Program} {ops : Array Oper} {rest : List Oper} {a : Act} {w : World} {Q : Exit → Act → World → Prop} {n d : Nat} {l : FL} {ty : TypeId} {ps : String} {af : Array Edge} {gd : Option (Nat × Bool)} {x y : Operand} {t u : TypeId}
theorem E.appendS {dst : Option Nat} (f : Fr n a l) {e k c : Nat} {A : Option Addr} {xs : List Value} {s : ByteArray} (ht : P.underlying t = some (.slice e)) (hu : P.underlying u = some .string) (hi : (P.info? e).map (fun i => (i.zero, i.size, i.bytes)) = some (some (.int .u8 0), 1, 1))
    (hx : Ae l x = some (.slice A k c)) (hy : Ae l y = some (.string s)) (g : Own w e 1 (.slice A k c) k xs) (q : k + s.size ≤ 140737488355328) :
    ∃ A' c' w',(execOp a.eval ⟨dst,.call { callee:=.builtin .append,args:=#[x,y],argTypes:=#[t,u] },ty,ps,af,gd⟩).run P w = .ok (.value (.slice A' (k + s.size) c')) w' ∧ App w w' e 1 A k c xs (s.toList.map u8) s.size A' c':=by
  obtain ⟨ie,m,r,v,z⟩:=info_parts hi;obtain ⟨v',w',j,o,hk,p⟩:=N2 (P:=P) w t u ty e ie ht hu m r v z (.slice A k c) k xs g s (by unfold maxLen; omega) q;obtain ⟨A',c',rfl,_⟩:=o.form;rw [Uo] at o;refine ⟨A',c',w',?_,o,hk,fun b q=>?_⟩
  · simp only [execOp,resolve,invoke,builtin,Sem.run_bind,Sem.run_pure,Result.andThen_ok,List.map_toArray,List.map_cons,List.map_nil,f.ev hx,f.ev hy,j]
  · have := p b (by cases A' <;> simp_all [Value.ownBlock])
    rcases this with h | h
    · exact .inl (by cases A <;> simp_all [Value.ownBlock])
    · exact .inr h
theorem L.appendS (f : Fr n a l) (hw : Region.wanted ⟨some d, .call { callee := .builtin .append, args := #[x, y], argTypes := #[t, u] }, ty, ps, af, gd⟩ (yielded ops a.tmps) = true) (p : d < n) {e k c : Nat} {A : Option Addr} {xs : List Value} {s : ByteArray} (q : P.underlying t = some (.slice e)) (r : P.underlying u = some .string) (hi : (P.info? e).map (fun i => (i.zero, i.size, i.bytes)) = some (some (.int .u8 0), 1, 1))
    (v : Ae l x = some (.slice A k c)) (z : Ae l y = some (.string s)) (g : Own w e 1 (.slice A k c) k xs) (o : k + s.size ≤ 140737488355328)
    (m : ∀ a' w' A' c',App w w' e 1 A k c xs (s.toList.map u8) s.size A' c' → Fr n a' ((d,.slice A' (k + s.size) c') :: l) → wpList P ops Q rest a' w') : wpList P ops Q (⟨some d,.call { callee:=.builtin .append,args:=#[x,y],argTypes:=#[t,u] },ty,ps,af,gd⟩ :: rest) a w:=by
  obtain ⟨A',c',w',h,b⟩:=E.appendS (dst:=some d) (ty:=ty) (ps:=ps) (af:=af) (gd:=gd) f q r hi v z g o;exact L.val f hw rfl p h fun a' j=>m a' w' A' c' b j
theorem E.and {dst : Option Nat} (f : Fr n a l) {k : IntKind} {i j r : Int} (c : Ae l x = some (.int k i)) (g : Ae l y = some (.int k j)) (b : bits .and k i j = r) : (execOp a.eval ⟨dst,.binOp .and t x y u,ty,ps,af,gd⟩).run P w = .ok (.value (.int k r)) w:=by
  simp [execOp,f.ev c,f.ev g,eqGuard,binOp_and,intBits_and,b]
theorem E.or {dst : Option Nat} (f : Fr n a l) {k : IntKind} {i j r : Int} (c : Ae l x = some (.int k i)) (g : Ae l y = some (.int k j)) (b : bits .or k i j = r) : (execOp a.eval ⟨dst,.binOp .or t x y u,ty,ps,af,gd⟩).run P w = .ok (.value (.int k r)) w:=by
  simp [execOp,f.ev c,f.ev g,eqGuard,binOp_or,intBits_or,b]
theorem E.shlN {dst : Option Nat} (f : Fr n a l) {k b : IntKind} {i j r : Int} (m : Ae l x = some (.int k i)) (o : Ae l y = some (.int b j)) (c : 0 ≤ j) (g : j ≤ k.bits) (h : k.wrap (i * 2 ^ j.toNat) = r) : (execOp a.eval ⟨dst,.binOp .shl t x y u,ty,ps,af,gd⟩).run P w = .ok (.value (.int k r)) w:=by
  simp [execOp,f.ev m,f.ev o,eqGuard,binOp,shift_shl k b i j c g,h]
theorem E.shrN {dst : Option Nat} (f : Fr n a l) {k b : IntKind} {i j r : Int} (m : Ae l x = some (.int k i)) (o : Ae l y = some (.int b j)) (c : 0 ≤ j) (g : j ≤ k.bits) (h : i / 2 ^ j.toNat = r) : (execOp a.eval ⟨dst,.binOp .shr t x y u,ty,ps,af,gd⟩).run P w = .ok (.value (.int k r)) w:=by
  simp [execOp,f.ev m,f.ev o,eqGuard,binOp,shift_shr k b i j c g,h]
theorem Sl.bs {A : Option Addr} {m : Nat} {b : List UInt8} (h : Sl w A m 1 (b.map u8)) : Bs [] w.heap.size w A m b:=by
  refine ⟨by have:=h.1; simpa using this,fun j=>?_⟩;obtain ⟨g,c,e,f,k⟩:=h.2 j;exact ⟨g,c,e,f,.inl f,fun i x o=>k i _ (by simp [o])⟩
theorem Bs.toSl {E : List TypeId} {B : Nat} {A : Option Addr} {m : Nat} {b : List UInt8} (h : Bs E B w A m b) : Sl w A m 1 (b.map u8):=Sl.of_rds h.rds
theorem E.toStr {dst : Option Nat} (f : Fr n a l) {A : Option Addr} {m c : Nat} {b : List UInt8} {e : TypeId} (k : Ae l x = some (.slice A m c)) (i : P.underlying t = some (.slice e)) (g : P.underlying e = some (.int .u8)) (j : P.underlying u = some .string) (h : Sl w A m 1 (b.map u8)) :
    (execOp a.eval ⟨dst,.convert t u x,ty,ps,af,gd⟩).run P w = .ok (.value (.string ⟨b.toArray⟩)) w:=E.convV f k (h.bs.conv i g j)
end
end Go.Hub
namespace Go.Hub
open Go.RowKit
section
variable {P : Program} {a : Act} {w : World} {n : Nat} {l : FL} {dst : Option Nat} {ty : TypeId} {ps : String} {af : Array Edge} {g : Option (Nat × Bool)} {x : Operand} {t : TypeId}
theorem E.fieldAddrN (d : Nat) (f : Fr n a l) {h : Array Field} {i : Nat} {c : Field} {b o s : Nat} (m : P.underlying t = some (.struct h)) (p : Ae l x = some (.pointer (some ⟨b, o, none⟩))) (hi : h[i]? = some c) (j : c.offset = d)
    (k : (P.info? c.type).map (·.size) = some (s + 1)) : (execOp a.eval ⟨dst,.fieldAddr t x i,ty,ps,af,g⟩).run P w = .ok (.value (.pointer (some ⟨b,o + d,none⟩))) w:=by
  subst j;exact E.fieldAddr f m p hi k
end
def gd (ops : Array Oper) (l : FL) : Option (Nat × Bool) → Option Bool
  | none=>some true
  | some (j,b)=>match (ops[j]?).bind (·.dst) with
    | none=>none
    | some dj=>match look l dj with
      | some (.bool c)=>some (c == b)
      | some (.tuple _)=>some false
      | _=>none
def Hc (l : FL) : Op → Option Value
  | .move x=>Ae l x
  | .assign x=>Ae l x
  | .pick c x y=>match Ae l c with
    | some (.bool true)=>Ae l x
    | some (.bool false)=>Ae l y
    | _=>none
  | .unOp .not _ x=>match Ae l x with
    | some (.bool true)=>some (.bool false)
    | some (.bool false)=>some (.bool true)
    | _=>none
  | _=>none
def stepS (ops : Array Oper) (n : Nat) (l : FL) (o : Oper) : Option FL:=
  match gd ops l o.guard with
  | none=>none
  | some false=>match o.dst with
    | none=>some l
    | some d=>bif Nat.blt d n then some ((d,undef) :: l) else none
  | some true=>match Hc l o.op,o.dst with
    | some v,some d=>bif Nat.blt d n then some ((d,v) :: l) else none
    | _,_=>none
def Ia (ops : Array Oper) (n : Nat) : FL → List Oper → FL × List Oper
  | l,[]=>(l,[])
  | l,o :: r=>match stepS ops n l o with
    | some l'=>Ia ops n l' r
    | none=>(l,o :: r)
section
variable {P : Program} {ops : Array Oper} {a : Act} {w : World} {Q : Exit → Act → World → Prop} {n : Nat} {l l' : FL} {o : Oper} {rest : List Oper}
theorem Ix (f : Fr n a l) {c : Bool} (h : gd ops l o.guard = some c) : Region.wanted o (yielded ops a.tmps) = c:=by
  unfold gd at h;unfold Region.wanted
  cases hg : o.guard with
  | none=>rw [hg] at h; simpa using h
  | some p=>
    obtain ⟨j,b⟩:=p;rw [hg] at h;simp only at h ⊢
    cases hj : (ops[j]?).bind (·.dst) with
    | none=>rw [hj] at h; cases h
    | some dj=>
      rw [hj] at h;simp only at h
      split at h
      · rename_i c' hc
        rw [f.yield hj hc];simp at h;rw [← h]
        simp
      · rename_i hc
        have d : yielded ops a.tmps j = none:=by
          unfold yielded;rw [hj];simp [f.slot dj _ hc]
        rw [d];simp at h;simp [h]
      · cases h
theorem G9 (f : Fr n a l) {v : Value} (h : Hc l o.op = some v) : (execOp a.eval o).run P w = .ok (.value v) w:=by
  obtain ⟨b,i,k,j,d,g⟩:=o;simp only at h;unfold Hc at h
  split at h
  · exact E.move f h
  · exact E.assign f h
  · rename_i c x y
    split at h
    · rename_i hc
      exact E.pickT f hc h
    · rename_i hc
      exact E.pickF f hc h
    · cases h
  · rename_i t x
    split at h
    · rename_i hc
      simp at h;subst h;exact E.not f hc
    · rename_i hc
      simp at h;subst h;exact E.not f hc
    · cases h
  · cases h
theorem L.stepRun (f : Fr n a l) (h : Go.Hub.stepS ops n l o = some l') (g : ∀ a',Fr n a' l' → wpList P ops Q rest a' w) : wpList P ops Q (o :: rest) a w:=by
  unfold Go.Hub.stepS at h
  split at h
  · cases h
  · rename_i hg
    have c:=Ix f hg
    split at h
    · rename_i hd
      cases h;exact L.skipN f c hd fun a' b=>g a' b
    · rename_i d hd
      cases hb : Nat.blt d n
      · rw [hb] at h; cases h
      · rw [hb] at h
        cases h;exact L.skip f c hd (by simpa [Nat.blt_eq] using hb) fun a' b=>g a' b
  · rename_i hg
    have c:=Ix f hg
    split at h
    · rename_i v d hv hd
      cases hb : Nat.blt d n
      · rw [hb] at h; cases h
      · rw [hb] at h
        cases h;exact L.val f c hd (by simpa [Nat.blt_eq] using hb) (G9 f hv) fun a' b=>g a' b
    · cases h
theorem L.runAll : ∀ (rest : List Oper) (l : FL) (a : Act), Fr n a l → (∀ a', Fr n a' (Ia ops n l rest).1 → wpList P ops Q (Ia ops n l rest).2 a' w) → wpList P ops Q rest a w
  | [],l,a,f,hK=>hK a f
  | o :: r,l,a,f,hK=>by
    unfold Ia at hK
    cases hs : Go.Hub.stepS ops n l o with
    | none=>
      rw [hs] at hK
      exact hK a f
    | some l'=>
      rw [hs] at hK
      exact L.stepRun f hs fun a' f'=>L.runAll r l' a' f' hK
theorem L.run (f : Fr n a l) {b : List Oper} (h : (Ia ops n l rest).2 = b) (c : ∀ a',Fr n a' (Ia ops n l rest).1 → wpList P ops Q b a' w) : wpList P ops Q rest a w:=
  L.runAll rest l a f (by rw [h]; exact c)
def Q8 (i : Nat) : List Oper → Bool
  | []=>false
  | o :: r=>(match o.dst with | some d=>Nat.beq d i | none=>false) || Q8 i r
theorem K9 (i : Nat) : ∀ (rest : List Oper) (l : FL), Q8 i rest = false → look (Ia ops n l rest).1 i = look l i
  | [],l,_=>rfl
  | o :: r,l,h=>by
    unfold Q8 at h
    rw [Bool.or_eq_false_iff] at h
    unfold Ia
    cases hs : Go.Hub.stepS ops n l o with
    | none=>rfl
    | some l'=>
      show look (Ia ops n l' r).1 i = look l i
      rw [K9 i r l' h.2]
      have key : ∀ d v,o.dst = some d → look ((d,v) :: l) i = look l i:=fun d v hd=>by
        have h1:=h.1
        rw [hd] at h1
        have hne : ¬ d = i:=fun e=>by
          subst e
          simp at h1
        have hb : (d == i) = false:=by simp [hne]
        simp [look,hb]
      unfold Go.Hub.stepS at hs
      split at hs
      · cases hs
      · split at hs
        · cases hs; rfl
        · rename_i d hd
          cases hb : Nat.blt d n
          · rw [hb] at hs; cases hs
          · rw [hb] at hs; cases hs; exact key _ _ hd
      · split at hs
        · rename_i v d hv hd
          cases hb : Nat.blt d n
          · rw [hb] at hs; cases hs
          · rw [hb] at hs; cases hs; exact key _ _ hd
        · cases hs
theorem Fr.kept (f : Fr n a (Ia ops n l rest).1) {i : Nat} {v : Value} (b : Q8 i rest = false) (h : look l i = some v) : look (Ia ops n l rest).1 i = some v:=(K9 i rest l b).trans h
end
end Go.Hub
namespace Go.Hub
open Go.RowKit
def Kb (md : Region.Mode) (ops : Array Oper) (n : Nat) : List Nat → FL → Array Bool → FL × Array Bool × Bool
  | [],l,listed=>(l,listed,true)
  | i :: r,l,listed=>match ops[i]? with
    | none=>(l,listed,false)
    | some o=>match o.dst,stepS ops n l o with
      | some _,some l'=>bif Region.free md ops listed i && (Region.ready md ops listed).contains i then Kb md ops n r l' (listed.setIfInBounds i true) else (l,listed,false)
      | _,_=>(l,listed,false)
section
variable {P : Program} {ops : Array Oper} {Q : Exit → Act → World → Prop} {md : Region.Mode} {S : World → Prop} {a : Act} {w : World} {n : Nat} {l : FL}
theorem R.runAll (j : Region.noSelect ops = true) (g : ∀ c (a : Act) (x : Nat × Value) w, Q (.panic c) (a.put (some x.1) x.2) w → Q (.panic c) a w) (h : S w) {fuel : Nat} : ∀ (k : List Nat) (l : FL) (b : Array Bool) (a : Act), Fr n a l → (Kb md ops n k l b).2.2 = true →
    (∀ a',Fr n a' (Kb md ops n k l b).1 → wpAnyH P md ops Q S fuel (Kb md ops n k l b).2.1 a' w) → wpAnyH P md ops Q S (fuel + k.length) b a w
  | [],l,b,a,f,_,hK=>hK a f
  | i :: r,l,b,a,f,hd,hK=>by
    unfold Kb at hd hK
    cases ho : ops[i]? with
    | none=>simp only [ho] at hd; cases hd
    | some o=>
      simp only [ho] at hd hK
      cases hdst : o.dst with
      | none=>simp only [hdst] at hd; cases hd
      | some d=>
        cases hst : stepS ops n l o with
        | none=>simp only [hdst,hst] at hd; cases hd
        | some l'=>
          simp only [hdst,hst] at hd hK
          cases hc : Region.free md ops b i && (Region.ready md ops b).contains i
          · simp only [hc] at hd; cases hd
          · simp only [hc, cond_true] at hd hK
            have hc' : Region.free md ops b i = true ∧ (Region.ready md ops b).contains i = true:=by simpa using hc
            rw [List.length_cons,← Nat.add_assoc]
            unfold stepS at hst
            split at hst
            · cases hst
            · rename_i hg
              rw [hdst] at hst
              simp only at hst
              cases hb : Nat.blt d n
              · rw [hb] at hst; cases hst
              · rw [hb] at hst
                cases hst
                exact R.takeSkip i f ho hdst (by simpa [Nat.blt_eq] using hb) j hc'.1 hc'.2 (fun c a u w=>g c a (d,u) w) (Ix f hg) h fun a' m=>R.runAll j g h r _ _ a' m hd hK
            · rename_i hg
              rw [hdst] at hst
              cases hv : Hc l o.op with
              | none=>simp [hv] at hst
              | some v=>
                simp only [hv] at hst
                cases hb : Nat.blt d n
                · rw [hb] at hst; cases hst
                · rw [hb] at hst
                  cases hst
                  exact R.take i f ho hdst (by simpa [Nat.blt_eq] using hb) j hc'.1 hc'.2 (fun c a u w=>g c a (d,u) w) (Ix f hg) h (fun w _=>G9 f hv) fun a' m=>R.runAll j g h r _ _ a' m hd hK
def Ha (ops : Array Oper) (i : Nat) : List Nat → Bool
  | []=>false
  | j :: r=>(match (ops[j]?).bind (·.dst) with | some d=>Nat.beq d i | none=>false) || Ha ops i r
theorem N3 {o : Oper} {j : FL} {i d : Nat} (b : stepS ops n l o = some j) (h : o.dst = some d) (hi : Nat.beq d i = false) : look j i = look l i:=by
  have f : ∀ v,look ((d,v) :: l) i = look l i:=fun v=>by
    have g : ¬ d = i:=fun e=>by subst e; simp at hi
    have c : (d == i) = false:=by simp [g]
    simp [look,c]
  unfold stepS at b
  split at b
  · cases b
  · rw [h] at b
    simp only at b;cases c : Nat.blt d n
    · rw [c] at b; cases b
    · rw [c] at b; cases b; exact f _
  · rw [h] at b
    cases hv : Hc l o.op with
    | none=>simp [hv] at b
    | some v=>
      simp only [hv] at b;cases c : Nat.blt d n
      · rw [c] at b; cases b
      · rw [c] at b; cases b; exact f _
theorem Ma (i : Nat) : ∀ (c : List Nat) (l : FL) (b : Array Bool), Ha ops i c = false → look (Kb md ops n c l b).1 i = look l i
  | [],l,b,_=>rfl
  | j :: r,l,b,h=>by
    unfold Ha at h
    rw [Bool.or_eq_false_iff] at h
    unfold Kb
    cases ho : ops[j]? with
    | none=>rfl
    | some o=>
      simp only
      cases hdst : o.dst with
      | none=>rfl
      | some d=>
        cases hst : stepS ops n l o with
        | none=>rfl
        | some l'=>
          simp only
          cases hc : Region.free md ops b j && (Region.ready md ops b).contains j
          · rfl
          · simp only [cond_true]
            rw [Ma i r l' _ h.2]
            have h1:=h.1
            rw [ho] at h1
            simp only [Option.bind_some,hdst] at h1
            exact N3 hst hdst h1
theorem R.run (g : List Nat) {b : Array Bool} (d : Array Bool) {fuel : Nat} (f : Fr n a l) (m : Region.noSelect ops = true) (j : ∀ c (a : Act) (x : Nat × Value) w, Q (.panic c) (a.put (some x.1) x.2) w → Q (.panic c) a w) (k : S w)
    (h : ((Kb md ops n g l b).2.2 && ((Kb md ops n g l b).2.1 == d)) = true) (i : ∀ a',Fr n a' (Kb md ops n g l b).1 → wpAnyH P md ops Q S fuel d a' w) : wpAnyH P md ops Q S (fuel + g.length) b a w:=by
  rw [Bool.and_eq_true] at h;refine R.runAll m j k g l b a f h.1 ?_;rw [eq_of_beq h.2];exact i
theorem Fr.keptD {c : List Nat} {b : Array Bool} (f : Fr n a (Kb md ops n c l b).1) {i : Nat} {v : Value} (d : Ha ops i c = false) (h : look l i = some v) : look (Kb md ops n c l b).1 i = some v:=(Ma i c l b d).trans h
end
end Go.Hub
namespace Go.Hub
open Go.RowKit
section
variable {P : Program} {ops : Array Oper} {Q : Exit → Act → World → Prop} {md : Region.Mode} {S : World → Prop} {a : Act} {w w' : World} {n d : Nat} {l : FL} {v : Value} {o : Oper} {K : Act → World → Prop}
theorem O.call {i : Nat} (f : Fr n a l) (hi : ops[i]? = some o) (m : o.dst = some d) (p : d < n) (hw : Region.wanted o (yielded ops a.tmps) = true)
    {fn : Nat} {b : Array Value} (h : (execOp a.eval o).run P w = .ok (.enter fn b) w) {R : Ending → World → Prop} (k : Calls P fn b w R)
    (g : ∀ e w',R e w' → ∃ v,e = .returned v ∧ S w' ∧ ∀ a',Fr n a' ((d,v) :: l) → K a' w') : wpOp P ops Q i (fun a w=>S w ∧ K a w) a w:=by
  unfold wpOp;simp only [hi,hw,if_true];refine .inl ?_;unfold Oper.wp;rw [h];refine Calls.mono k ?_;intro e w' q;obtain ⟨v,rfl,j,c⟩:=g e w' q;show S w' ∧ K (a.put o.dst v) w';rw [m];exact ⟨j,c _ (f.put d v p)⟩
end
end Go.Hub
namespace Go.Hub
open Go.RowKit
section
variable {P : Program} {ops : Array Oper} {rest : List Oper} {o : Oper} {a : Act} {w w' w'' : World} {Q : Exit → Act → World → Prop} {n d : Nat} {l : FL} {v : Value}
theorem L.va (f : Fr n a l) (h : (execOp a.eval o).run P w = .ok (.value v) w') (b : ∀ a', Fr n a' ((d, v) :: l) → wpList P ops Q rest a' w')
    (hw : Region.wanted o (yielded ops a.tmps) = true:=by exact Aa) (hd : o.dst = some d:=by rfl) (hn : d < n:=by decide) : wpList P ops Q (o :: rest) a w:=L.val f hw hd hn h b
theorem L.sk (f : Fr n a l) (hw : Region.wanted o (yielded ops a.tmps) = false) (b : ∀ a',Fr n a' ((d,undef) :: l) → wpList P ops Q rest a' w) (c : o.dst = some d:=by rfl) (hn : d < n:=by decide) : wpList P ops Q (o :: rest) a w:=L.skip f hw c hn b
theorem L.cl (f : Fr n a l) {fn : Nat} {b : Array Value} (h : (execOp a.eval o).run P w = .ok (.enter fn b) w) {R : Ending → World → Prop} (g : Calls P fn b w R)
    (c : ∀ e w',R e w' → ∃ v,e = .returned v ∧ ∀ a',Fr n a' ((d,v) :: l) → wpList P ops Q rest a' w') (hw : Region.wanted o (yielded ops a.tmps) = true:=by exact Aa) (hd : o.dst = some d:=by rfl) (hn : d < n:=by decide) : wpList P ops Q (o :: rest) a w:=L.call f hw hd hn h g c
theorem sn {l : FL} : Go.Hub.sub l []:=trivial
theorem sc (i : Nat) {l : FL} {v : Value} {r : FL} (b : Go.Hub.sub l r) (h : look l i = some v:=by rfl) : Go.Hub.sub l ((i,v) :: r):=⟨h,b⟩
theorem y8e {J : Act → World → Prop} (h : J a w) : Exit.then J Q .normal a w:=h
theorem Kept.nn {L : List Nat} {g : Nat} (h : Kept L w w') (k : Kept [g] w' w'') (f : w.heap.size ≤ g) : Kept L w w'':=h.trans k fun x c b=>by
  obtain rfl:=List.mem_singleton.1 c
  omega
theorem Kept.z {L : List Nat} (h : Kept L w w') (k : Kept [] w' w'') : Kept L w w'':=h.trans k (by simp)
theorem Blk.z {g : Nat} {t : TypeId} {cs : Array Value} (h : Blk w g t cs) (k : Kept [] w w') : Blk w' g t cs:=h.kept k (by simp)
theorem Blk.oo {g x : Nat} {t : TypeId} {cs : Array Value} (h : Blk w g t cs) (k : Kept [x] w w') (b : g ≠ x:=by omega) : Blk w' g t cs:=h.kept k (by simpa using b)
end
section
variable {P : Program} {ops : Array Oper} {Q : Exit → Act → World → Prop} {md : Region.Mode} {S : World → Prop} {a : Act} {w w' : World} {n d : Nat} {l : FL} {v : Value} {o : Oper}
theorem R.t (i : Nat) {fuel : Nat} {b : Array Bool} (f : Fr n a l) (hi : ops[i]? = some o) (j : S w) (k : ∀ w, S w → (execOp a.eval o).run P w = .ok (.value v) w)
    (g : ∀ a',Fr n a' ((d,v) :: l) → wpAnyH P md ops Q S fuel (b.setIfInBounds i true) a' w) (hw : Region.wanted o (yielded ops a.tmps) = true:=by exact Aa) (hd : o.dst = some d:=by rfl) (hn : d < n:=by decide)
    (hs : Region.noSelect ops = true:=by kernel_rfl) (hf : Region.free md ops b i = true:=by kernel_rfl) (hr : (Region.ready md ops b).contains i = true:=by kernel_rfl)
    (hQ : ∀ c (a : Act) (u : Value) w,Q (.panic c) (a.put (some d) u) w → Q (.panic c) a w:=by exact fun _ _ _ _ h=>h) : wpAnyH P md ops Q S (fuel + 1) b a w:=R.take i f hi hd hn hs hf hr hQ hw j k g
theorem R.ts (i : Nat) {fuel : Nat} {b : Array Bool} (f : Fr n a l) (hi : ops[i]? = some o) (j : S w) (hw : Region.wanted o (yielded ops a.tmps) = false)
    (g : ∀ a',Fr n a' ((d,undef) :: l) → wpAnyH P md ops Q S fuel (b.setIfInBounds i true) a' w) (k : o.dst = some d:=by rfl) (hn : d < n:=by decide)
    (hs : Region.noSelect ops = true:=by kernel_rfl) (hf : Region.free md ops b i = true:=by kernel_rfl) (hr : (Region.ready md ops b).contains i = true:=by kernel_rfl)
    (hQ : ∀ c (a : Act) (u : Value) w,Q (.panic c) (a.put (some d) u) w → Q (.panic c) a w:=by exact fun _ _ _ _ h=>h) : wpAnyH P md ops Q S (fuel + 1) b a w:=R.takeSkip i f hi k hn hs hf hr hQ hw j g
end
section
variable {P : Program} {a : Act} {w : World} {n : Nat} {l : FL} {dst : Option Nat} {ty : TypeId} {ps : String} {af : Array Edge} {g : Option (Nat × Bool)} {x y : Operand} {t u : TypeId}
theorem E.fa (d : Nat) (f : Fr n a l) {h : Array Field} {i : Nat} {c : Field} {b o s : Nat} (k : P.underlying t = some (.struct h)) (hi : h[i]? = some c) (j : (P.info? c.type).map (·.size) = some (s + 1)) (m : Ae l x = some (.pointer (some ⟨b, o, none⟩)) := by rfl) (ho : c.offset = d := by rfl) :
    (execOp a.eval ⟨dst,.fieldAddr t x i,ty,ps,af,g⟩).run P w = .ok (.value (.pointer (some ⟨b,o + d,none⟩))) w:=E.fieldAddrN d f k m hi ho j
theorem E.ld (f : Fr n a l) {b : Nat} {o : Nat} {v : Value} {d : TypeDesc} {e : TypeId} {cs : Array Value} (c : P.underlying t = some d) (B : Blk w b e cs) (h : Ae l x = some (.pointer (some ⟨b, o, none⟩)) := by rfl) (hc : cs.toList[o]? = some v := by rfl) (hd : d.isRow = false := by rfl) :
    (execOp a.eval ⟨dst,.load t x,ty,ps,af,g⟩).run P w = .ok (.value v) w:=E.load f c hd h (B.cl hc)
theorem E.eq (f : Fr n a l) {k : IntKind} {i j : Int} (b : Ae l x = some (.int k i):=by rfl) (hy : Ae l y = some (.int k j):=by rfl) : (execOp a.eval ⟨dst,.binOp .eql t x y u,ty,ps,af,g⟩).run P w = .ok (.value (.bool (decide (i = j)))) w:=E.eql f b hy
end
theorem B6 {L : List Nat} {g : Nat} {w : World} (h : w.heap.size ≤ g ∨ g ∈ L) : ∀ x ∈ [g],x < w.heap.size → x ∈ L:=fun x b a=>by
  obtain rfl:=List.mem_singleton.1 b
  rcases h with h | h
  · omega
  · exact h
theorem z1 {α : Type} {xs : List α} {i : Nat} {a : α} : xs.toArray.setIfInBounds i a = (xs.set i a).toArray:=List.setIfInBounds_toArray ..
theorem z2 {α : Type} {a b : α} {xs : List α} : (a :: xs).set 0 b = b :: xs:=rfl
theorem z3 {α : Type} {a b : α} {xs : List α} {i : Nat} : (a :: xs).set (i + 1) b = a :: xs.set i b:=rfl
end Go.Hub
namespace Go.Hub
open Go.RowKit
def F6 (md : Region.Mode) (ops : Array Oper) (listed : Array Bool) (i : Nat) : Bool:=
  Nat.blt i ops.size && (!listed.getD i true && ((ops[i]?).map (·.after.all fun e=>!Region.binds md e || listed.getD e.on false)).getD false)
def x3s (md : Region.Mode) (o : Oper) (i : Nat) : Bool:=o.after.any fun e=>Region.binds md e && e.on == i
def Uq (md : Region.Mode) (ops : Array Oper) : Bool:=(List.range ops.size).all fun i=>match ops[i]? with
  | none=>false
  | some oi=>(List.range ops.size).all fun j=>j == i || match ops[j]? with
    | some oj=>x3s md oj i || x3s md oi j || oi.apart ops oj
    | none=>true
theorem Ho {c : Region.Mode} {b : Array Oper} {a : Array Bool} {i : Nat} (h : F6 c b a i = true) : (Region.ready c b a).contains i = true:=by
  unfold F6 at h;rw [Bool.and_eq_true] at h;rw [List.contains_iff_mem];exact List.mem_filter.2 ⟨List.mem_range.2 (Nat.le_of_ble_eq_true h.1),h.2⟩
theorem Hp {n : Region.Mode} {c : Array Oper} {a : Array Bool} {i : Nat} (r : Uq n c = true) (h : F6 n c a i = true) : Region.free n c a i = true:=by
  unfold F6 at h;rw [Bool.and_eq_true,Bool.and_eq_true] at h;obtain ⟨o,s,f⟩:=h;unfold Region.free;have d:=List.all_eq_true.1 r i (List.mem_range.2 (Nat.le_of_ble_eq_true o))
  cases hi : c[i]? with
  | none=>rw [hi] at f; simp at f
  | some oi=>
    rw [hi] at d f;simp only [Option.map_some,Option.getD_some] at f;simp only at d ⊢;refine List.all_eq_true.2 fun j q=>?_;have b:=List.all_eq_true.1 d j q;rw [Bool.or_eq_true] at b
    rcases b with b | b
    · simp [b]
    · cases hoj : c[j]? with
      | none=>simp
      | some oj=>
        rw [hoj] at b;simp only [Bool.or_eq_true] at b ⊢
        rcases b with (b | b) | b
        · exact .inr (.inl b)
        · refine .inl (.inr ?_)
          unfold x3s at b;obtain ⟨e,p,k⟩:=Array.any_eq_true'.1 b;rw [Bool.and_eq_true] at k;have g:=Array.all_eq_true_iff_forall_mem.1 f e p;have m : e.on = j:=by simpa using k.2
          rw [k.1,m] at g;simp only [Bool.not_true,Bool.false_or] at g
          rcases Nat.lt_or_ge j a.size with l | l
          · simp [l] at g ⊢; exact g
          · simp [Array.getElem?_eq_none l] at g
        · exact .inr (.inr b)
section
variable {P : Program} {ops : Array Oper} {Q : Exit → Act → World → Prop} {md : Region.Mode} {S : World → Prop} {a : Act} {w w' : World} {n d : Nat} {l : FL} {v : Value} {o : Oper}
theorem R.bT {id : Nat} (f : P.follows .mixedOrders = true) (c : (Region.noSelect ops && Uq .any ops) = true) (b : S (w.drewN 1))
    (h : (Region.noSelect ops = true ∧ Uq .any ops = true) → wpAnyH P .any ops Q S ops.size (Array.replicate ops.size false) a (w.drewN 1)) : (Code.region id ops true).wp P Q a w:=R.begin f b (h (by simpa using c))
theorem R.u (i : Nat) {fuel : Nat} {b : Array Bool} (f : Fr n a l) (hi : ops[i]? = some o) (g : Region.noSelect ops = true ∧ Uq md ops = true) (k : S w) (m : ∀ w, S w → (execOp a.eval o).run P w = .ok (.value v) w)
    (j : ∀ a',Fr n a' ((d,v) :: l) → wpAnyH P md ops Q S fuel (b.setIfInBounds i true) a' w) (hw : Region.wanted o (yielded ops a.tmps) = true:=by exact Aa) (hd : o.dst = some d:=by rfl) (hn : d < n:=by decide)
    (hr : F6 md ops b i = true:=by kernel_rfl)
    (hQ : ∀ c (a : Act) (u : Value) w,Q (.panic c) (a.put (some d) u) w → Q (.panic c) a w:=by exact fun _ _ _ _ h=>h) : wpAnyH P md ops Q S (fuel + 1) b a w:=R.take i f hi hd hn g.1 (Hp g.2 hr) (Ho hr) hQ hw k m j
theorem R.us (i : Nat) {fuel : Nat} {b : Array Bool} (f : Fr n a l) (hi : ops[i]? = some o) (g : Region.noSelect ops = true ∧ Uq md ops = true) (k : S w) (hw : Region.wanted o (yielded ops a.tmps) = false)
    (j : ∀ a',Fr n a' ((d,undef) :: l) → wpAnyH P md ops Q S fuel (b.setIfInBounds i true) a' w) (m : o.dst = some d:=by rfl) (hn : d < n:=by decide)
    (hr : F6 md ops b i = true:=by kernel_rfl)
    (hQ : ∀ c (a : Act) (u : Value) w,Q (.panic c) (a.put (some d) u) w → Q (.panic c) a w:=by exact fun _ _ _ _ h=>h) : wpAnyH P md ops Q S (fuel + 1) b a w:=R.takeSkip i f hi m hn g.1 (Hp g.2 hr) (Ho hr) hQ hw k j
end
def runT (md : Region.Mode) (ops : Array Oper) (n : Nat) : List Nat → FL → Array Bool → FL × Array Bool × Bool
  | [],l,listed=>(l,listed,true)
  | i :: r,l,listed=>match ops[i]? with
    | none=>(l,listed,false)
    | some o=>match o.dst,stepS ops n l o with
      | some _,some l'=>bif F6 md ops listed i then runT md ops n r l' (listed.setIfInBounds i true) else (l,listed,false)
      | _,_=>(l,listed,false)
section
variable {P : Program} {ops : Array Oper} {Q : Exit → Act → World → Prop} {md : Region.Mode} {S : World → Prop} {a : Act} {w : World} {n : Nat} {l : FL}
theorem R.runAllT (g : Region.noSelect ops = true ∧ Uq md ops = true) (h : ∀ c (a : Act) (x : Nat × Value) w, Q (.panic c) (a.put (some x.1) x.2) w → Q (.panic c) a w) (j : S w) {fuel : Nat} : ∀ (k : List Nat) (l : FL) (b : Array Bool) (a : Act), Fr n a l → (runT md ops n k l b).2.2 = true →
    (∀ a',Fr n a' (runT md ops n k l b).1 → wpAnyH P md ops Q S fuel (runT md ops n k l b).2.1 a' w) → wpAnyH P md ops Q S (fuel + k.length) b a w
  | [],l,b,a,f,_,hK=>hK a f
  | i :: r,l,b,a,f,hd,hK=>by
    unfold runT at hd hK
    cases ho : ops[i]? with
    | none=>simp only [ho] at hd; cases hd
    | some o=>
      simp only [ho] at hd hK
      cases hdst : o.dst with
      | none=>simp only [hdst] at hd; cases hd
      | some d=>
        cases hst : stepS ops n l o with
        | none=>simp only [hdst,hst] at hd; cases hd
        | some l'=>
          simp only [hdst,hst] at hd hK
          cases hc : F6 md ops b i
          · simp only [hc] at hd; cases hd
          · simp only [hc, cond_true] at hd hK
            have hc' : Region.free md ops b i = true ∧ (Region.ready md ops b).contains i = true:=⟨Hp g.2 hc,Ho hc⟩
            rw [List.length_cons,← Nat.add_assoc]
            unfold stepS at hst
            split at hst
            · cases hst
            · rename_i hg
              rw [hdst] at hst
              simp only at hst
              cases hb : Nat.blt d n
              · rw [hb] at hst; cases hst
              · rw [hb] at hst
                cases hst
                exact R.takeSkip i f ho hdst (by simpa [Nat.blt_eq] using hb) g.1 hc'.1 hc'.2 (fun c a u w=>h c a (d,u) w) (Ix f hg) j fun a' m=>R.runAllT g h j r _ _ a' m hd hK
            · rename_i hg
              rw [hdst] at hst
              cases hv : Hc l o.op with
              | none=>simp [hv] at hst
              | some v=>
                simp only [hv] at hst
                cases hb : Nat.blt d n
                · rw [hb] at hst; cases hst
                · rw [hb] at hst
                  cases hst
                  exact R.take i f ho hdst (by simpa [Nat.blt_eq] using hb) g.1 hc'.1 hc'.2 (fun c a u w=>h c a (d,u) w) (Ix f hg) j (fun w _=>G9 f hv) fun a' m=>R.runAllT g h j r _ _ a' m hd hK
theorem Mb (i : Nat) : ∀ (c : List Nat) (l : FL) (b : Array Bool), Ha ops i c = false → look (runT md ops n c l b).1 i = look l i
  | [],l,b,_=>rfl
  | j :: r,l,b,h=>by
    unfold Ha at h
    rw [Bool.or_eq_false_iff] at h
    unfold runT
    cases ho : ops[j]? with
    | none=>rfl
    | some o=>
      simp only
      cases hdst : o.dst with
      | none=>rfl
      | some d=>
        cases hst : stepS ops n l o with
        | none=>rfl
        | some l'=>
          simp only
          cases hc : F6 md ops b j
          · rfl
          · simp only [cond_true]
            rw [Mb i r l' _ h.2]
            have h1:=h.1
            rw [ho] at h1
            simp only [Option.bind_some,hdst] at h1
            exact N3 hst hdst h1
theorem R.runT (g : List Nat) {b : Array Bool} (d : Array Bool) {fuel : Nat} (f : Fr n a l) (m : Region.noSelect ops = true ∧ Uq md ops = true) (j : ∀ c (a : Act) (x : Nat × Value) w, Q (.panic c) (a.put (some x.1) x.2) w → Q (.panic c) a w) (k : S w)
    (h : ((runT md ops n g l b).2.2 && ((runT md ops n g l b).2.1 == d)) = true) (i : ∀ a',Fr n a' (runT md ops n g l b).1 → wpAnyH P md ops Q S fuel d a' w) : wpAnyH P md ops Q S (fuel + g.length) b a w:=by
  rw [Bool.and_eq_true] at h;refine R.runAllT m j k g l b a f h.1 ?_;rw [eq_of_beq h.2];exact i
theorem Fr.kT {c : List Nat} {b : Array Bool} (f : Fr n a (runT md ops n c l b).1) {i : Nat} {v : Value} (d : Ha ops i c = false) (h : look l i = some v) : look (runT md ops n c l b).1 i = some v:=(Mb i c l b d).trans h
end
end Go.Hub
namespace Go.Hub
open Go.RowKit
def tf (n : Nat) (l : List Nat) : Array Bool:=((List.range n).map fun i=>!l.contains i).toArray
section
variable {P : Program} {ops : Array Oper} {rest : List Oper} {a : Act} {w : World} {Q : Exit → Act → World → Prop} {n d : Nat} {l : FL} {v : Value} {ty t : TypeId} {ps : String} {af : Array Edge} {g : Option (Nat × Bool)} {x : Operand}
theorem L.mv (f : Fr n a l) (b : ∀ a', Fr n a' ((d, v) :: l) → wpList P ops Q rest a' w) (c : Ae l x = some v := by rfl)
    (hw : Region.wanted ⟨some d,.move x,ty,ps,af,g⟩ (yielded ops a.tmps) = true:=by exact Aa) (hn : d < n:=by decide) : wpList P ops Q (⟨some d,.move x,ty,ps,af,g⟩ :: rest) a w:=L.val f hw rfl hn (E.move f c) b
theorem L.ag (f : Fr n a l) (b : ∀ a', Fr n a' ((d, v) :: l) → wpList P ops Q rest a' w) (c : Ae l x = some v := by rfl)
    (hw : Region.wanted ⟨some d,.assign x,ty,ps,af,g⟩ (yielded ops a.tmps) = true:=by exact Aa) (hn : d < n:=by decide) : wpList P ops Q (⟨some d,.assign x,ty,ps,af,g⟩ :: rest) a w:=L.val f hw rfl hn (E.assign f c) b
theorem L.fa (h : Nat) (f : Fr n a l) {j : Array Field} {i : Nat} {c : Field} {b o s : Nat} (p : P.underlying t = some (.struct j)) (hi : j[i]? = some c) (m : (P.info? c.type).map (·.size) = some (s + 1))
    (k : ∀ a',Fr n a' ((d,.pointer (some ⟨b,o + h,none⟩)) :: l) → wpList P ops Q rest a' w) (q : Ae l x = some (.pointer (some ⟨b,o,none⟩)):=by rfl) (ho : c.offset = h:=by rfl)
    (hw : Region.wanted ⟨some d,.fieldAddr t x i,ty,ps,af,g⟩ (yielded ops a.tmps) = true:=by exact Aa) (hn : d < n:=by decide) : wpList P ops Q (⟨some d,.fieldAddr t x i,ty,ps,af,g⟩ :: rest) a w:=L.val f hw rfl hn (E.fa h f p hi m q ho) k
theorem L.ld (f : Fr n a l) {b o : Nat} {c : TypeDesc} {e : TypeId} {cs : Array Value} (i : P.underlying t = some c) (B : Blk w b e cs) (h : ∀ a', Fr n a' ((d, v) :: l) → wpList P ops Q rest a' w)
    (j : Ae l x = some (.pointer (some ⟨b,o,none⟩)):=by rfl) (hc : cs.toList[o]? = some v:=by rfl) (hd : c.isRow = false:=by rfl)
    (hw : Region.wanted ⟨some d,.load t x,ty,ps,af,g⟩ (yielded ops a.tmps) = true:=by exact Aa) (hn : d < n:=by decide) : wpList P ops Q (⟨some d,.load t x,ty,ps,af,g⟩ :: rest) a w:=L.val f hw rfl hn (E.ld f i B j hc hd) h
theorem scR {r : FL} {rest : List Oper} (f : Fr n a (Ia ops n l rest).1) (i : Nat) (b : Go.Hub.sub (Ia ops n l rest).1 r) {v : Value} (c : Q8 i rest = false:=by kernel_rfl) (h : look l i = some v:=by rfl) : Go.Hub.sub (Ia ops n l rest).1 ((i,v) :: r):=⟨Fr.kept f c h,b⟩
theorem wn {R : Act → World → Prop} {Q : Exit → Act → World → Prop} (b : ∀ a w,R a w → Q .normal a w) (h : R a w) : wpList P ops Q [] a w:=wpList_nil (b _ _ h)
def pkL (l : FL) : List Nat → Option FL
  | []=>some []
  | i :: r=>match look l i,pkL l r with
    | some v,some t=>some ((i,v) :: t)
    | _,_=>none
theorem Tf {l : FL} : ∀ (is : List Nat) (r : FL), pkL l is = some r → Go.Hub.sub l r
  | [],r,h=>by
    injection h with h
    subst h
    exact trivial
  | i :: is,r,h=>by
    unfold pkL at h
    split at h
    · next v t h1 h2=>
      injection h with h
      subst h
      exact ⟨h1,Tf is _ h2⟩
    · cases h
theorem Tg {l l' : FL} : ∀ (is : List Nat) (r : FL), (∀ i ∈ is, look l' i = look l i) → pkL l is = some r → Go.Hub.sub l' r
  | [],r,_,h=>by
    injection h with h
    subst h
    exact trivial
  | i :: is,r,hk,h=>by
    unfold pkL at h
    split at h
    · next v t h1 h2=>
      injection h with h
      subst h
      exact ⟨(hk i (by simp)).trans h1,Tg is _ (fun j hj=>hk j (by simp [hj])) h2⟩
    · cases h
theorem pkS {l : FL} (b : List Nat) {r : FL} (h : pkL l b = some r:=by rfl) : Go.Hub.sub l r:=Tf b r h
theorem Ft {rest : List Oper} (f : Fr n a (Ia ops n l rest).1) (b : List Nat) {r : FL} (c : (b.all fun i=>!Q8 i rest) = true:=by kernel_rfl) (h : pkL l b = some r:=by rfl) : Go.Hub.sub (Ia ops n l rest).1 r:=
  Tg b r (fun i j=>K9 i rest l (by simpa using List.all_eq_true.1 c i j)) h
theorem pkT {k : Region.Mode} {c : List Nat} {b : Array Bool} (f : Fr n a (runT k ops n c l b).1) (j : List Nat) {r : FL} (m : (j.all fun i=>!Ha ops i c) = true:=by kernel_rfl) (h : pkL l j = some r:=by rfl) : Go.Hub.sub (runT k ops n c l b).1 r:=
  Tg j r (fun i o=>Mb i c l b (by simpa using List.all_eq_true.1 m i o)) h
theorem pkD {k : Region.Mode} {c : List Nat} {b : Array Bool} (f : Fr n a (Kb k ops n c l b).1) (j : List Nat) {r : FL} (m : (j.all fun i=>!Ha ops i c) = true:=by kernel_rfl) (h : pkL l j = some r:=by rfl) : Go.Hub.sub (Kb k ops n c l b).1 r:=
  Tg j r (fun i o=>Ma i c l b (by simpa using List.all_eq_true.1 m i o)) h
theorem Fr.pk (f : Fr n a l) (b : List Nat) {r : FL} (h : pkL l b = some r:=by rfl) : Fr n a r:=f.sub (Tf b r h)
theorem R.mv {j : Region.Mode} {S : World → Prop} (i : Nat) {fuel : Nat} {b : Array Bool} (f : Fr n a l) {v : Value} {x : Operand} {ty : TypeId} {ps : String} {af : Array Edge} {g : Option (Nat × Bool)} (hi : ops[i]? = some ⟨some d, .move x, ty, ps, af, g⟩) (m : S w)
    (k : ∀ a',Fr n a' ((d,v) :: l) → wpAnyH P j ops Q S fuel (b.setIfInBounds i true) a' w) (o : Ae l x = some v:=by rfl) (hw : Region.wanted ⟨some d,.move x,ty,ps,af,g⟩ (yielded ops a.tmps) = true:=by exact Aa) (hn : d < n:=by decide)
    (hs : Region.noSelect ops = true:=by kernel_rfl) (hf : Region.free j ops b i = true:=by kernel_rfl) (hr : (Region.ready j ops b).contains i = true:=by kernel_rfl)
    (hQ : ∀ c (a : Act) (u : Value) w,Q (.panic c) (a.put (some d) u) w → Q (.panic c) a w:=by exact fun _ _ _ _ h=>h) : wpAnyH P j ops Q S (fuel + 1) b a w:=R.t i f hi m (fun _ _=>E.move f o) k hw rfl hn hs hf hr hQ
theorem RB.tk {j : Region.Mode} {S : World → Prop} {o : Oper} {m : Nat} (i : Nat) {fuel : Nat} {b : Array Bool} (f : Fr n a l) (hi : ops[i]? = some o) (p : S w) (q : ∀ w, S w → (execOp a.eval o).run P w = .ok (.value v) w)
    (k : ∀ a',Fr n a' ((d,v) :: l) → Bg P j ops Q S m fuel (b.setIfInBounds i true) a' w) (hw : Region.wanted o (yielded ops a.tmps) = true:=by exact Aa) (hd : o.dst = some d:=by rfl) (hn : d < n:=by decide)
    (hb : (Nat.blt i m && G2 j ops m) = true:=by kernel_rfl) (hs : Region.noSelect ops = true:=by kernel_rfl) (hf : Region.free j ops b i = true:=by kernel_rfl) (hr : (Region.ready j ops b).contains i = true:=by kernel_rfl)
    (hQ : ∀ c (a : Act) (u : Value) w,Q (.panic c) (a.put (some d) u) w → Q (.panic c) a w:=by exact fun _ _ _ _ h=>h) : Bg P j ops Q S m (fuel + 1) b a w:=RB.take i f hi hd hn hb hs hf hr hQ hw p q k
theorem C.sk {id : Nat} {b : List Oper} {y : Code} (h : ∀ K : Act → World → Prop,(∀ a w,y.wp P Q a w → K a w) → wpList P b.toArray (Exit.then K Q) b a w) : (Code.seq (Code.region id b.toArray false) y).wp P Q a w:=wp_seq_k fun K c=>C.region (h K c)
theorem scT {j : Region.Mode} {r : FL} {c : List Nat} {b : Array Bool} (f : Fr n a (runT j ops n c l b).1) (i : Nat) (k : Go.Hub.sub (runT j ops n c l b).1 r) {v : Value} (m : Ha ops i c = false:=by kernel_rfl) (h : look l i = some v:=by rfl) : Go.Hub.sub (runT j ops n c l b).1 ((i,v) :: r):=⟨Fr.kT f m h,k⟩
theorem sr {l r : FL} {i : Nat} {v : Value} (h : look l i = some v) (b : Go.Hub.sub l r) : Go.Hub.sub l ((i,v) :: r):=⟨h,b⟩
theorem sv {l r : FL} (i : Nat) (v : Value) (b : Go.Hub.sub l r) (h : look l i = some v:=by kernel_rfl) : Go.Hub.sub l ((i,v) :: r):=⟨h,b⟩
theorem jK {a : Act} {w : World} (J : Act → World → Prop) (h : J a w) : Exit.then J (fun _ _ _=>True) .normal a w:=h
theorem sx {l r : FL} {i : Nat} {v : Value} (b : Go.Hub.sub l r) (h : look l i = some v:=by rfl) : Go.Hub.sub l ((i,v) :: r):=⟨h,b⟩
theorem Own.z {w w' : World} {e : TypeId} {size n : Nat} {v : Value} {xs : List Value} (h : Own w e size v n xs) (b : Kept [] w w') : Own w' e size v n xs:=Own.kept h b (by simp)
theorem xt {K : Act → World → Prop} {Q : Exit → Act → World → Prop} {a : Act} {w : World} : Exit.then K Q .ret a w = Q .ret a w:=rfl
theorem xb {i k : Nat} {Q : Exit → Act → World → Prop} {a : Act} {w : World} : Exit.inBlock i Q .ret a w = Q .ret a w:=rfl
end
section
variable {P : Program} {ops : Array Oper} {rest : List Oper} {a : Act} {w w' w'' : World} {Q : Exit → Act → World → Prop} {n d : Nat} {l : FL} {v : Value} {ty t : TypeId} {ps : String} {af : Array Edge} {g : Option (Nat × Bool)} {x : Operand} {dst : Option Nat} {op : Op} {j dj : Nat} {o : Oper}
theorem Fr.y {b : Bool} (f : Fr n a l) (c : (ops[j]?).bind (·.dst) = some dj:=by rfl) (hb : look l dj = some (.bool b):=by rfl) : Region.wanted ⟨dst,op,ty,ps,af,some (j,b)⟩ (yielded ops a.tmps) = true:=f.yes c hb
theorem Fr.nT (f : Fr n a l) (b : (ops[j]?).bind (·.dst) = some dj:=by rfl) (hb : look l dj = some (.bool false):=by rfl) : Region.wanted ⟨dst,op,ty,ps,af,some (j,true)⟩ (yielded ops a.tmps) = false:=f.noT b hb
theorem Fr.nF (f : Fr n a l) (b : (ops[j]?).bind (·.dst) = some dj:=by rfl) (hb : look l dj = some (.bool true):=by rfl) : Region.wanted ⟨dst,op,ty,ps,af,some (j,false)⟩ (yielded ops a.tmps) = false:=f.noF b hb
theorem Fr.nU {b : Bool} (f : Fr n a l) (c : (ops[j]?).bind (·.dst) = some dj:=by rfl) (hb : look l dj = some undef:=by rfl) : Region.wanted ⟨dst,op,ty,ps,af,some (j,b)⟩ (yielded ops a.tmps) = false:=f.noU c hb
theorem R.p {k : Region.Mode} {S : World → Prop} (i : Nat) {fuel : Nat} {b : Array Bool} (f : Fr n a l) (hi : ops[i]? = some o) (q : S w) (r : ∀ {w}, (execOp a.eval o).run P w = .ok (.value v) w)
    (m : ∀ a',Fr n a' ((d,v) :: l) → wpAnyH P k ops Q S fuel (b.setIfInBounds i true) a' w) (hw : Region.wanted o (yielded ops a.tmps) = true:=by exact Aa) (hd : o.dst = some d:=by rfl) (hn : d < n:=by decide)
    (hs : Region.noSelect ops = true:=by kernel_rfl) (hf : Region.free k ops b i = true:=by kernel_rfl) (hr : (Region.ready k ops b).contains i = true:=by kernel_rfl)
    (hQ : ∀ c (a : Act) (u : Value) w,Q (.panic c) (a.put (some d) u) w → Q (.panic c) a w:=by exact fun _ _ _ _ h=>h) : wpAnyH P k ops Q S (fuel + 1) b a w:=R.t i f hi q (fun _ _=>r) m hw hd hn hs hf hr hQ
theorem RB.p {k : Region.Mode} {S : World → Prop} {m : Nat} (i : Nat) {fuel : Nat} {b : Array Bool} (f : Fr n a l) (hi : ops[i]? = some o) (r : S w) (s : ∀ {w}, (execOp a.eval o).run P w = .ok (.value v) w)
    (q : ∀ a',Fr n a' ((d,v) :: l) → Bg P k ops Q S m fuel (b.setIfInBounds i true) a' w) (hw : Region.wanted o (yielded ops a.tmps) = true:=by exact Aa) (hd : o.dst = some d:=by rfl) (hn : d < n:=by decide)
    (hb : (Nat.blt i m && G2 k ops m) = true:=by kernel_rfl) (hs : Region.noSelect ops = true:=by kernel_rfl) (hf : Region.free k ops b i = true:=by kernel_rfl) (hr : (Region.ready k ops b).contains i = true:=by kernel_rfl)
    (hQ : ∀ c (a : Act) (u : Value) w,Q (.panic c) (a.put (some d) u) w → Q (.panic c) a w:=by exact fun _ _ _ _ h=>h) : Bg P k ops Q S m (fuel + 1) b a w:=RB.tk i f hi r (fun _ _=>s) q hw hd hn hb hs hf hr hQ
theorem R.cl {k : Region.Mode} {S : World → Prop} (i : Nat) {fuel : Nat} {b : Array Bool} (f : Fr n a l) (hi : ops[i]? = some o) {fn : Nat} {c : Array Value} (h : (execOp a.eval o).run P w = .ok (.enter fn c) w) {R : Ending → World → Prop} (p : Calls P fn c w R)
    (m : ∀ e w',R e w' → ∃ v,e = .returned v ∧ S w' ∧ ∀ a',Fr n a' ((d,v) :: l) → wpAnyH P k ops Q S fuel (b.setIfInBounds i true) a' w') (hw : Region.wanted o (yielded ops a.tmps) = true:=by exact Aa) (hd : o.dst = some d:=by rfl) (hn : d < n:=by decide)
    (hr : Region.ready k ops b = [i]:=by kernel_rfl) : wpAnyH P k ops Q S (fuel + 1) b a w:=Go.Hub.R.call i f hi hd hn hr hw h p m
theorem RB.cl {k : Region.Mode} {S : World → Prop} {m : Nat} (i : Nat) {fuel : Nat} {b : Array Bool} (f : Fr n a l) (hi : ops[i]? = some o) {fn : Nat} {c : Array Value} (h : (execOp a.eval o).run P w = .ok (.enter fn c) w) {R : Ending → World → Prop} (q : Calls P fn c w R)
    (p : ∀ e w',R e w' → ∃ v,e = .returned v ∧ S w' ∧ ∀ a',Fr n a' ((d,v) :: l) → Bg P k ops Q S m fuel (b.setIfInBounds i true) a' w') (hw : Region.wanted o (yielded ops a.tmps) = true:=by exact Aa) (hd : o.dst = some d:=by rfl) (hn : d < n:=by decide)
    (hu : Nd m b = false:=by kernel_rfl) (hr : Region.ready k ops b = [i]:=by kernel_rfl) : Bg P k ops Q S m (fuel + 1) b a w:=RB.call i f hi hd hn hu hr hw h q p
theorem R.on {c : Region.Mode} {S : World → Prop} (i : Nat) {fuel : Nat} {b : Array Bool} (h : wpOp P ops Q i (fun a w=>S w ∧ wpAnyH P c ops Q S fuel (b.setIfInBounds i true) a w) a w) (f : Region.ready c ops b = [i]:=by kernel_rfl) : wpAnyH P c ops Q S (fuel + 1) b a w:=R.one i f h
theorem Newb.al {cs : Array Value} {b : Nat} (h : Newb w w' b t cs) : Blk w' b t cs ∧ Kept [] w w' ∧ w.heap.size ≤ b ∧ b < w'.heap.size ∧ w.heap.size ≤ w'.heap.size:=⟨h.blk,h.kept,h.lo,h.blk.lt,h.kept.size⟩
theorem Blk.kn {cs : Array Value} {b c : Nat} (h : Blk w b t cs) (k : Kept [c] w w') (f : b ≠ c:=by omega) : Blk w' b t cs:=h.kept k (by simpa using f)
theorem Mod.lo {T M : List Nat} {B b : Nat} (h : Mod T M B w w') (k : w'.heap.size ≤ b) : w.heap.size ≤ b:=Nat.le_trans h.size k
theorem Kept.lo {L : List Nat} {b : Nat} (h : Kept L w w') (k : w'.heap.size ≤ b) : w.heap.size ≤ b:=Nat.le_trans h.size k
section
variable {fn : Nat} {ats : Array TypeId} {x0 x1 x2 x3 x4 : Operand} {v0 v1 v2 v3 v4 : Value}
theorem Dt (f : Fr n a l) (c : ∀ args w,(callFunc fn args).run P w = .ok (.enter fn args) w) (b : Ae l x0 = some v0:=by rfl) : (execOp a.eval ⟨dst,.call { callee:=.value (.func fn),args:=#[x0],argTypes:=ats },ty,ps,af,g⟩).run P w = .ok (.enter fn #[v0]) w:=B5 c (y6e f b)
theorem Bm (f : Fr n a l) (c : ∀ args w,(callFunc fn args).run P w = .ok (.enter fn args) w) (b : Ae l x0 = some v0:=by rfl) (h1 : Ae l x1 = some v1:=by rfl) : (execOp a.eval ⟨dst,.call { callee:=.value (.func fn),args:=#[x0,x1],argTypes:=ats },ty,ps,af,g⟩).run P w = .ok (.enter fn #[v0,v1]) w:=B5 c (y6f f b h1)
theorem Ji (f : Fr n a l) (c : ∀ args w,(callFunc fn args).run P w = .ok (.enter fn args) w) (b : Ae l x0 = some v0:=by rfl) (h1 : Ae l x1 = some v1:=by rfl) (h2 : Ae l x2 = some v2:=by rfl) : (execOp a.eval ⟨dst,.call { callee:=.value (.func fn),args:=#[x0,x1,x2],argTypes:=ats },ty,ps,af,g⟩).run P w = .ok (.enter fn #[v0,v1,v2]) w:=B5 c (y6g f b h1 h2)
end
end
end Go.Hub
namespace Go.Proofs.YtkdeedhjkjffpaaGreat
abbrev U39:=@Tryz.underlying39
abbrev U3:=@Tryz.underlying3
abbrev U9:=@Tryz.underlying9
abbrev U36:=@Tryz.underlying36
abbrev U4:=@Tryz.underlying4
abbrev U33:=@Tryz.underlying33
abbrev U27:=@Tryz.underlying27
abbrev U48:=@Tryz.underlying48
abbrev U5:=@Tryz.underlying5
abbrev U69:=@Tryz.underlying69
abbrev U111:=@Tryz.underlying111
abbrev U46:=@Tryz.underlying46
abbrev U93:=@Tryz.underlying93
abbrev U109:=@Tryz.underlying109
abbrev U44:=@Tryz.underlying44
abbrev U37:=@Tryz.underlying37
abbrev U108:=@Tryz.underlying108
abbrev U71:=@Tryz.underlying71
abbrev U79:=@Tryz.underlying79
abbrev U35:=@Tryz.underlying35
abbrev U58:=@Tryz.underlying58
abbrev U29:=@Tryz.underlying29
abbrev U25:=@Tryz.underlying25
abbrev U45:=@Tryz.underlying45
abbrev U68:=@Tryz.underlying68
abbrev U137:=@Tryz.underlying137
abbrev U76:=@Tryz.underlying76
abbrev U128:=@Tryz.underlying128
abbrev U143:=@Tryz.underlying143
abbrev U114:=@Tryz.underlying114
abbrev U107:=@Tryz.underlying107
abbrev U160:=@Tryz.underlying160
abbrev U67:=@Tryz.underlying67
abbrev U26:=@Tryz.underlying26
abbrev U103:=@Tryz.underlying103
abbrev U185:=@Tryz.underlying185
abbrev U22:=@Tryz.underlying22
abbrev Q9 : Value:=(.agg #[(.slice none 0 0),(.slice none 0 0),(.slice none 0 0),(.slice none 0 0)])
abbrev z79 : Value:=(.agg #[(.string ⟨#[]⟩),(.int .i64 0)])
end Go.Proofs.YtkdeedhjkjffpaaGreat
namespace Go.Proofs.YtkdeedhjkjffpaaGreat
open Go.RowKit Go.Hub
def szL : List (Option Nat):=[some 1,some 1,some 1,some 1,some 1,some 1,some 1,some 4,some 4,some 1,some 1,some 1,some 1,some 2,some 2,some 1,some 1,some 1,some 1,some 1,some 1,some 1,some 1,some 1,some 1,some 1,some 16,some 1,some 17,some 17,some 1,some 1,some 1,some 1,some 4,some 4,some 1,some 1,some 24,some 24,some 30,some 30,some 1,some 1,some 1,some 1,some 1,some 4,some 4,some 1,some 1,some 1,some 1,some 1,some 1,some 4,some 4,some 1,some 4,some 1,some 4,some 4,some 1,some 1,some 1,some 1,some 1,some 1,some 1,some 1,some 32,some 32,some 1,some 2,some 2,some 11,some 11,some 1,some 2,some 2,some 1,some 1,some 1,some 24,some 24,some 24,some 24,some 24,some 24,some 2,some 2,some 1,some 1,some 1,some 1,some 1,some 1,some 1,some 1,some 1,some 1,some 1,some 1,some 1,some 1,some 1,some 1,some 1,some 1,some 1,some 6,some 6,some 1,some 1,some 1,some 1,some 1,some 2,some 2,some 1,some 1,some 1,some 1,some 1,some 1,some 1,some 1,some 3,some 3,some 1,some 1,some 1,some 1,some 1,some 1,some 1,some 27,some 27,some 1,some 1,some 1,some 1,some 7,some 7,some 1,some 1,some 1,some 3,some 3,some 3,some 3,some 10,some 10,some 1,some 1,some 3,some 3,some 1,some 1,some 3,some 3,some 1,some 1,some 1,some 1,some 1,some 1,some 1,some 1,some 1,some 1,some 1,some 1,some 1,some 1,some 1,some 1,some 1,some 1,some 1,some 1,some 1,some 1,some 1,some 3,some 3,some 1,some 1,some 1,some 1,some 4,some 4,some 0,some 0,some 0,some 1,some 1,some 1,some 1,some 1,some 1,some 1,some 11,some 11,some 1,some 1,some 2,some 2,some 4,some 4,some 1]
theorem szs : (List.range 211).map (fun k=>(Tryz.prog.info? k).map (·.size)) = szL:=by kernel_rfl
theorem szA {k s : Nat} (h : szL[k]? = some (some s)) : (Tryz.prog.info? k).map (·.size) = some s:=by
  rw [← szs,List.getElem?_map] at h
  cases hk : (List.range 211)[k]? with
  | none=>rw [hk] at h; cases h
  | some j=>
    rw [hk] at h
    have a : j = k:=by
      have:=(List.getElem?_eq_some_iff.1 hk).2
      simpa using this.symm
    subst a
    simpa using h
theorem Wr {t : Nat} {d : TypeDesc} (h : Tryz.prog.underlying t = some d:=by first  | exact U39 | exact U3 | exact U9 | exact U36 | exact U4 | exact U33 | exact U27 | exact U48 | exact U5 | exact U69 | exact U111 | exact U46 | exact U93 | exact U109 | exact U44 | exact U37 | exact U108 | exact U71 | exact U79 | exact U35 | exact U58 | exact U29 | exact U25 | exact U45 | exact U68 | exact U137 | exact U76 | exact U128 | exact U143 | exact U114 | exact U107 | exact U160 | exact U67 | exact U26 | exact U103 | exact U185 | exact U22) : Tryz.prog.underlying t = some d:=h
section
variable {ops : Array Oper} {rest : List Oper} {o : Oper} {a : Act} {w : World} {Q : Exit → Act → World → Prop} {n d : Nat} {l : FL} {v : Value}
def evs (l : FL) : List (Nat × Operand) → Option (List (Nat × Value))
  | []=>some []
  | (i,x) :: r=>match Ae l x,evs l r with
    | some v,some t=>some ((i,v) :: t)
    | _,_=>none
theorem pL (f : Fr n a l) {ps : Array (Nat × Operand)} {b : List (Nat × Value)} (h : evs l ps.toList = some b) : (ps.map fun p=>(p.1,a.eval p.2)).toList = b:=by
  rw [Array.toList_map]
  generalize ps.toList = is at h
  induction is generalizing b with
  | nil=>injection h
  | cons p r ih=>
    unfold evs at h
    split at h
    · next v t h1 h2=>
      injection h with h
      subst h;rw [List.map_cons,ih h2,f.ev h1]
    · cases h
theorem dk (w : World) (k : Nat) : Kept [] w (w.drewN k):=(Kept.refl _ _).drewN k
theorem L.bd (f : Fr n a l) {t ty : TypeId} {ps : Array (Nat × Operand)} {b : String} {af : Array Edge} {g : Option (Nat × Bool)} {c : List (Nat × Value)} {cs : Array Value} (i : Tryz.prog.built t c = some cs) (h : ∀ a', Fr n a' ((d, .agg cs) :: l) → wpList Tryz.prog ops Q rest a' w) (j : evs l ps.toList = some c := by rfl)
    (hw : Fr n a l → Region.wanted ⟨some d,.build t ps,ty,b,af,g⟩ (yielded ops a.tmps) = true:=by first | exact fun _=>Aa | exact Fr.y) (hn : d < n:=by decide) : wpList Tryz.prog ops Q (⟨some d,.build t ps,ty,b,af,g⟩ :: rest) a w:=L.val f (hw f) rfl hn (E.build f (pL f j) i) h
theorem L.lo (f : Fr n a l) {t ty : TypeId} {x : Operand} {b : String} {af : Array Edge} {g : Option (Nat × Bool)} {ad : Addr} (h : w.cell? ad = some v) (c : ∀ a', Fr n a' ((d, v) :: l) → wpList Tryz.prog ops Q rest a' w) (i : Ae l x = some (.pointer (some ad)) := by rfl) {td : TypeDesc} (ht : Tryz.prog.underlying t = some td := by exact Wr) (hd : td.isRow = false := by rfl)
    (hw : Fr n a l → Region.wanted ⟨some d,.load t x,ty,b,af,g⟩ (yielded ops a.tmps) = true:=by first | exact fun _=>Aa | exact Fr.y) (hn : d < n:=by decide) : wpList Tryz.prog ops Q (⟨some d,.load t x,ty,b,af,g⟩ :: rest) a w:=L.val f (hw f) rfl hn (E.load f ht hd i h) c
theorem L.rn (f : Fr n a l) (b : ∀ a',Fr n a' (Ia ops n l rest).1 → wpList Tryz.prog ops Q [] a' w) (h : (Ia ops n l rest).2 = []:=by kernel_rfl) : wpList Tryz.prog ops Q rest a w:=L.run f h b
theorem R.dn {c : Region.Mode} {S : World → Prop} {K : Act → World → Prop} {fuel : Nat} {b : Array Bool} (k : ∀ a w,K a w → Q .normal a w) (h : K a w) (f : Region.ready c ops b = []:=by kernel_rfl) : wpAnyH Tryz.prog c ops Q S fuel b a w:=R.done f (k _ _ h)
theorem aut (f : Fr n a l) (h : (execOp a.eval o).run Tryz.prog w = .ok (.value v) w:=by first | exact E.move f rfl | exact E.assign f rfl | exact E.nilCheck f rfl | exact E.fa _ f Wr (by rfl) (szA (by rfl)) (by rfl) (by first | exact (rfl : _ = 0) | exact (rfl : _ = 1) | exact (rfl : _ = 2) | exact (rfl : _ = 3) | exact (rfl : _ = 4) | exact (rfl : _ = 5) | exact (rfl : _ = 6) | exact (rfl : _ = 7) | exact (rfl : _ = 8) | exact (rfl : _ = 9) | exact (rfl : _ = 10) | exact (rfl : _ = 11) | exact (rfl : _ = 12) | exact (rfl : _ = 13) | exact (rfl : _ = 14) | exact (rfl : _ = 15) | exact (rfl : _ = 16) | exact (rfl : _ = 17) | exact (rfl : _ = 18) | exact (rfl : _ = 19) | exact (rfl : _ = 20) | exact (rfl : _ = 21) | exact (rfl : _ = 22) | exact (rfl : _ = 23) | exact (rfl : _ = 24) | exact (rfl : _ = 25) | exact (rfl : _ = 26) | exact (rfl : _ = 27) | exact (rfl : _ = 28) | exact (rfl : _ = 29) | exact (rfl : _ = 30) | exact (rfl : _ = 31)) | exact E.eq f | exact E.lss f rfl rfl | exact E.extract f rfl rfl | exact E.lenL f Wr rfl | exact E.pickT f rfl rfl | exact E.pickF f rfl rfl | exact E.not f rfl | exact E.load f Wr (by rfl) rfl (Blk.cl (by assumption) (by rfl)) | exact E.loadB f Wr (by rfl) (szA (by rfl)) rfl (by assumption) (by rfl) | exact E.neq f rfl rfl | exact E.gtr f rfl rfl | exact E.leq f rfl rfl | exact E.geq f rfl rfl | exact E.eqlS f rfl rfl | exact E.neqS f rfl rfl | exact E.eqlB f Wr rfl rfl | exact E.add f rfl rfl (IntWalk.i64_in _ (by omega)) | exact E.sub f rfl rfl (IntWalk.i64_in _ (by omega)) | exact E.indexA f (by assumption) Wr (szA (by rfl)) rfl rfl (by omega) (by omega)) : (execOp a.eval o).run Tryz.prog w = .ok (.value v) w:=h
theorem L.s (f : Fr n a l) (b : ∀ a', Fr n a' ((d, v) :: l) → wpList Tryz.prog ops Q rest a' w)
    (h : Fr n a l → (execOp a.eval o).run Tryz.prog w = .ok (.value v) w:=by intro f; exact aut f)
    (hw : Fr n a l → Region.wanted o (yielded ops a.tmps) = true:=by first | exact fun _=>Aa | exact Fr.y) (hd : o.dst = some d:=by rfl) (hn : d < n:=by decide) : wpList Tryz.prog ops Q (o :: rest) a w:=L.val f (hw f) hd hn (h f) b
variable {md : Region.Mode} {S : World → Prop}
structure Mark (l : List Nat) : Prop where
  t : True
theorem Mark.tl {i : Nat} {l : List Nat} (_ : Mark (i :: l)) : Mark l:=⟨trivial⟩
theorem R.sm {i : Nat} {k : List Nat} (_ : Mark (i :: k)) {fuel : Nat} {b : Array Bool} (f : Fr n a l)
    (j : ∀ a',Fr n a' ((d,v) :: l) → wpAnyH Tryz.prog md ops Q S fuel (b.setIfInBounds i true) a' w) (hi : ops[i]? = some o:=by rfl) (hS : S w:=by repeat' first | assumption | exact trivial | apply And.intro)
    (hv : ∀ w,S w → Fr n a l → (execOp a.eval o).run Tryz.prog w = .ok (.value v) w:=by intro W g f; first | exact aut f | exact E.load f Wr (by rfl) rfl (Blk.cl (by repeat (first | exact g | exact g.1 | replace g:=g.2)) (by rfl)) | exact E.loadB f Wr (by rfl) (szA (by rfl)) rfl (by repeat (first | exact g | exact g.1 | replace g:=g.2)) (by rfl) | exact E.load f Wr (by rfl) rfl (Blk.cl (Blk.z (by assumption) (by first | exact g | exact g.1)) (by rfl)))
    (ht : Region.noSelect ops = true ∧ Uq md ops = true:=by assumption)
    (hw : Fr n a l → Region.wanted o (yielded ops a.tmps) = true:=by first | exact fun _=>Aa | exact Fr.y) (hd : o.dst = some d:=by rfl) (hn : d < n:=by decide)
    (hr : F6 md ops b i = true:=by kernel_rfl)
    (hQ : ∀ c (a : Act) (u : Value) w,Q (.panic c) (a.put (some d) u) w → Q (.panic c) a w:=by exact fun _ _ _ _ h=>h) : wpAnyH Tryz.prog md ops Q S (fuel + 1) b a w:=R.u i f hi ht hS (fun w h=>hv w h f) j (hw f) hd hn hr hQ
theorem R.qm {i : Nat} {k : List Nat} (_ : Mark (i :: k)) {fuel : Nat} {b : Array Bool} (f : Fr n a l)
    (j : ∀ a',Fr n a' ((d,v) :: l) → wpAnyH Tryz.prog md ops Q S fuel (b.setIfInBounds i true) a' w) (hi : ops[i]? = some o:=by rfl) (hS : S w:=by repeat' first | assumption | exact trivial | apply And.intro)
    (hv : ∀ w,S w → Fr n a l → (execOp a.eval o).run Tryz.prog w = .ok (.value v) w:=by intro W g f; first | exact aut f | exact E.load f Wr (by rfl) rfl (Blk.cl (by repeat (first | exact g | exact g.1 | replace g:=g.2)) (by rfl)) | exact E.loadB f Wr (by rfl) (szA (by rfl)) rfl (by repeat (first | exact g | exact g.1 | replace g:=g.2)) (by rfl) | exact E.load f Wr (by rfl) rfl (Blk.cl (Blk.z (by assumption) (by first | exact g | exact g.1)) (by rfl)))
    (hw : Fr n a l → Region.wanted o (yielded ops a.tmps) = true:=by first | exact fun _=>Aa | exact Fr.y) (hd : o.dst = some d:=by rfl) (hn : d < n:=by decide)
    (hs : Region.noSelect ops = true:=by kernel_rfl) (hf : Region.free md ops b i = true:=by kernel_rfl) (hr : (Region.ready md ops b).contains i = true:=by kernel_rfl)
    (hQ : ∀ c (a : Act) (u : Value) w,Q (.panic c) (a.put (some d) u) w → Q (.panic c) a w:=by exact fun _ _ _ _ h=>h) : wpAnyH Tryz.prog md ops Q S (fuel + 1) b a w:=R.take i f hi hd hn hs hf hr hQ (hw f) hS (fun w h=>hv w h f) j
theorem RB.sm {m : Nat} {i : Nat} {k : List Nat} (_ : Mark (i :: k)) {fuel : Nat} {b : Array Bool} (f : Fr n a l)
    (j : ∀ a',Fr n a' ((d,v) :: l) → Bg Tryz.prog md ops Q S m fuel (b.setIfInBounds i true) a' w) (hi : ops[i]? = some o:=by rfl) (hS : S w:=by repeat' first | assumption | exact trivial | apply And.intro)
    (hv : ∀ w,S w → Fr n a l → (execOp a.eval o).run Tryz.prog w = .ok (.value v) w:=by intro W g f; first | exact aut f | exact E.load f Wr (by rfl) rfl (Blk.cl (by repeat (first | exact g | exact g.1 | replace g:=g.2)) (by rfl)) | exact E.loadB f Wr (by rfl) (szA (by rfl)) rfl (by repeat (first | exact g | exact g.1 | replace g:=g.2)) (by rfl) | exact E.load f Wr (by rfl) rfl (Blk.cl (Blk.z (by assumption) (by first | exact g | exact g.1)) (by rfl)))
    (hw : Fr n a l → Region.wanted o (yielded ops a.tmps) = true:=by first | exact fun _=>Aa | exact Fr.y) (hd : o.dst = some d:=by rfl) (hn : d < n:=by decide)
    (hb : (Nat.blt i m && G2 md ops m) = true:=by kernel_rfl) (hs : Region.noSelect ops = true:=by kernel_rfl) (hf : Region.free md ops b i = true:=by kernel_rfl) (hr : (Region.ready md ops b).contains i = true:=by kernel_rfl)
    (hQ : ∀ c (a : Act) (u : Value) w,Q (.panic c) (a.put (some d) u) w → Q (.panic c) a w:=by exact fun _ _ _ _ h=>h) : Bg Tryz.prog md ops Q S m (fuel + 1) b a w:=RB.take i f hi hd hn hb hs hf hr hQ (hw f) hS (fun w h=>hv w h f) j
end
section
variable {ops : Array Oper} {a : Act} {w : World} {Q : Exit → Act → World → Prop} {n : Nat} {l l' : FL} {G : Prop} {H : Act → Prop} {K R : Act → World → Prop}
structure Bx (p : Prop) : Prop where
  v : p
theorem rs (b : List Nat) (f : Fr n a l) (x : ∀ a',Fr n a' l' → H a') (h : Mark b → Fr n a l → (∀ a',Fr n a' l' → H a') → G:=by
  intro m f x
  repeat (refine R.sm m f fun _ f=>?_; replace m:=m.tl)
  exact x _ f) : G:=h ⟨trivial⟩ f x
theorem rq (b : List Nat) (f : Fr n a l) (x : ∀ a',Fr n a' l' → H a') (h : Mark b → Fr n a l → (∀ a',Fr n a' l' → H a') → G:=by
  intro m f x
  repeat (refine R.qm m f fun _ f=>?_; replace m:=m.tl)
  exact x _ f) : G:=h ⟨trivial⟩ f x
theorem rb (b : List Nat) (f : Fr n a l) (x : ∀ a',Fr n a' l' → H a') (h : Mark b → Fr n a l → (∀ a',Fr n a' l' → H a') → G:=by
  intro m f x
  repeat (refine RB.sm m f fun _ f=>?_; replace m:=m.tl)
  exact x _ f) : G:=h ⟨trivial⟩ f x
theorem pr (f : Fr n a l) (x : ∀ a',Fr n a' l' → H a') (h : Fr n a l → (∀ a',Fr n a' l' → H a') → G:=by
  intro f x;refine C.sk fun K k=>?_
  repeat refine L.s f fun _ f=>?_
  exact wn k (x _ f)) : G:=h f x
theorem Ib (f : Fr n a l) (k : ∀ a w,R a w → K a w) (x : ∀ a',Fr n a' l' → H a') (h : Fr n a l → (∀ a w,R a w → K a w) → (∀ a',Fr n a' l' → H a') → G:=by
  intro f k x;refine C.region ?_
  repeat refine L.s f fun _ f=>?_
  exact wn k (x _ f)) : G:=h f k x
theorem rt {b : Prop} (f : Fr n a l) (x : b) (h : Fr n a l → Bx b → G:=by
  intro f x;refine C.sk fun K k=>?_
  repeat refine L.s f fun _ f=>?_
  refine wn k (wp_ret ?_)
  try simp only [xt,xb]
  first | exact C.ret f rfl rfl x.v | exact C.ret2 f rfl rfl rfl x.v | exact C.ret0 f rfl x.v) : G:=h f ⟨x⟩
theorem rtk {b : Prop} (f : Fr n a l) (k : ∀ a w,R a w → K a w) (x : b) (h : Fr n a l → (∀ a w,R a w → K a w) → Bx b → G:=by
  intro f k x;refine C.region ?_
  repeat refine L.s f fun _ f=>?_
  refine wn k (wp_ret ?_)
  try simp only [xt,xb]
  first | exact C.ret f rfl rfl x.v | exact C.ret2 f rfl rfl rfl x.v | exact C.ret0 f rfl x.v) : G:=h f k ⟨x⟩
theorem re {b : Prop} (f : Fr n a l) (k : ∀ a w,R a w → K a w) (x : b) (h : Fr n a l → (∀ a w,R a w → K a w) → Bx b → G:=by
  intro f k x
  repeat refine L.s f fun _ f=>?_
  refine wn k (wp_ret ?_)
  try simp only [xt,xb]
  first | exact C.ret f rfl rfl x.v | exact C.ret2 f rfl rfl rfl x.v | exact C.ret0 f rfl x.v) : G:=h f k ⟨x⟩
theorem pe (f : Fr n a l) (k : ∀ a w,R a w → K a w) (x : ∀ a',Fr n a' l' → H a') (h : Fr n a l → (∀ a w,R a w → K a w) → (∀ a',Fr n a' l' → H a') → G:=by
  intro f k x
  repeat refine L.s f fun _ f=>?_
  exact wn k (x _ f)) : G:=h f k x
theorem Gc {b : Prop} (f : Fr n a l) (x : b) (h : Fr n a l → Bx b → G:=by
  intro f x;refine wp_ret ?_
  try simp only [xt,xb]
  first | exact C.ret f rfl rfl x.v | exact C.ret2 f rfl rfl rfl x.v | exact C.ret0 f rfl x.v) : G:=h f ⟨x⟩
variable {i : Nat} {c d : Code} {p : Prop} {inst : Decidable p} {b : Bool}
theorem C.sp (f : Fr n a l) (j : p → Fr n a ((i,.bool true) :: l) → c.wp Tryz.prog Q a w) (g : ¬ p → Fr n a ((i,.bool false) :: l) → d.wp Tryz.prog Q a w) (h : Go.Hub.look l i = some (.bool (@decide p inst)):=by rfl) : (Code.cond (.tmp i) c d).wp Tryz.prog Q a w:=
  f.sD i h (fun x f=>C.cT f (by simp [Ae,Go.Hub.look]) (j x f)) (fun x f=>C.cF f (by simp [Ae,Go.Hub.look]) (g x f))
theorem C.sb (f : Fr n a l) (j : b = true → Fr n a ((i,.bool true) :: l) → c.wp Tryz.prog Q a w) (g : b = false → Fr n a ((i,.bool false) :: l) → d.wp Tryz.prog Q a w) (h : Go.Hub.look l i = some (.bool b):=by rfl) : (Code.cond (.tmp i) c d).wp Tryz.prog Q a w:=
  f.split i h (fun x f=>C.cT f (by simp [Ae,Go.Hub.look]) (j x f)) (fun x f=>C.cF f (by simp [Ae,Go.Hub.look]) (g x f))
theorem Bw {f : Nat} {fn : Func} {c : Code} {g : Array Value} {R : Ending → World → Prop} (k : Tryz.prog.funcs[f]? = some fn) (m : fn.ntmps = n)
    (h : ∀ a,Fr n a l → c.wp Tryz.prog (bodyPost Tryz.prog fn R) a w) (j : fn.body = some c:=by rfl) (hs : Nat.ble g.size n = true:=by rfl)
    (hl : (g.toList.zipIdx.map fun p=>(p.2,p.1)) = l:=by first | exact (rfl : _ = [(0,_)]) | exact (rfl : _ = [(0,_),(1,_)]) | exact (rfl : _ = [(0,_),(1,_),(2,_)]) | exact (rfl : _ = [(0,_),(1,_),(2,_),(3,_)]) | exact (rfl : _ = [(0,_),(1,_),(2,_),(3,_),(4,_)]) | exact (rfl : _ = [(0,_),(1,_),(2,_),(3,_),(4,_),(5,_)]) | exact (rfl : _ = [])) : Calls Tryz.prog f g w R:=
  C.enter k j m hs (fun a f=>h a (hl ▸ f))
end
end Go.Proofs.YtkdeedhjkjffpaaGreat
namespace Go.Hub
open Go.RowKit
def Cs (E : List TypeId) (B : Nat) (w : World) (A : Option Addr) (n size : Nat) (xs : List Value) : Prop:=
  xs.length = n * size ∧ (0 < n → ∃ b off,A = some ⟨b,off,none⟩ ∧ b < w.heap.size ∧ (b < B ∨ Typ w b E) ∧ ∀ j u,xs[j]? = some u → w.cell? ⟨b,off + j,none⟩ = some u)
section
variable {E : List TypeId} {B : Nat} {w w' : World} {A : Option Addr} {n size : Nat} {xs : List Value}
theorem Cs.nil (E : List TypeId) (B : Nat) (w : World) (A : Option Addr) (size : Nat) : Cs E B w A 0 size []:=⟨by simp,fun h=>absurd h (by omega)⟩
theorem Cs.same (h : Cs E B w A n size xs) (i : Same E B w w') : Cs E B w' A n size xs:=
  ⟨h.1,fun l=>by
    obtain ⟨b,d,e,g,c,k⟩:=h.2 l
    have f:=i.block b g c
    refine ⟨b,d,e,Nat.lt_of_lt_of_le g i.size,?_,fun j x m=>(World.cell?_of_block (w:=w) (a:=⟨b,d + j,none⟩) f).trans (k j x m)⟩
    rcases c with c | c
    · exact .inl c
    · exact .inr (c.of_eq f)⟩
theorem Cs.rds (h : Cs E B w A n size xs) : Rds w w.heap.size size A n xs:=by
  refine ⟨h.1,fun f=>?_⟩;obtain ⟨b,a,e,c,_,d⟩:=h.2 f;exact ⟨b,a,e,c,d⟩
theorem Cs.oO {e : TypeId} {c : Nat} (h : Own w e size (.slice A n c) n xs) (k : e ∈ E) : Cs E B w A n size xs:=by
  refine ⟨h.1,fun p=>?_⟩
  rcases h.2 with ⟨_,o⟩ | ⟨g,d,f,a,l,b,_,_,_,i⟩
  · omega
  · injection l with hA
    refine ⟨g,d,hA,(Array.getElem?_eq_some_iff.1 b).1,.inr ⟨a,e,_,b,k⟩,fun j x m=>?_⟩;rw [cell_of_row w g _ a e (0,0) b];exact i j _ m
end
structure Pk where
  kind : Int:=0
  dup : Bool:=false
  retain : Bool:=false
  qos : Int:=0
  id : Int:=0
  topic : ByteArray:=⟨#[]⟩
  pay : List UInt8:=[]
  level : Int:=0
  client : ByteArray:=⟨#[]⟩
  clean : Bool:=false
  keep : Int:=0
  hasWill : Bool:=false
  wt : ByteArray:=⟨#[]⟩
  wp : List UInt8:=[]
  wq : Int:=0
  wr : Bool:=false
  hasUser : Bool:=false
  hasPass : Bool:=false
  user : ByteArray:=⟨#[]⟩
  pass : List UInt8:=[]
  present : Bool:=false
  code : Int:=0
  subs : List (ByteArray × Int):=[]
  codes : List Int:=[]
def subCells (l : List (ByteArray × Int)) : List Value:=l.flatMap fun s=>[.string s.1,.int .i64 s.2]
def codeCells (l : List Int) : List Value:=l.map (Value.int .i64)
theorem Th (l : List (ByteArray × Int)) : ∀ u ∈ subCells l,u.oneCell' = true:=fun u c=>by
  unfold subCells at c
  simp at c
  obtain ⟨a,b,_,rfl | rfl⟩:=c <;> rfl
theorem Qt (l : List Int) : ∀ u ∈ codeCells l,u.oneCell' = true:=fun u b=>by
  unfold codeCells at b
  simp at b
  obtain ⟨a,_,rfl⟩:=b
  rfl
structure Ad where
  pa : Option Addr
  pc : Nat
  wa : Option Addr
  wc : Nat
  sa : Option Addr
  sc : Nat
  ua : Option Addr
  uc : Nat
  ca : Option Addr
  cc : Nat
def Pk.cells (p : Pk) (s : Ad) : Array Value:=
  #[.int .i64 p.kind, .bool p.dup, .bool p.retain, .int .i64 p.qos, .int .i64 p.id, .string p.topic, .slice s.pa p.pay.length s.pc, .int .i64 p.level, .string p.client, .bool p.clean, .int .i64 p.keep, .bool p.hasWill,
    .string p.wt,.slice s.wa p.wp.length s.wc,.int .i64 p.wq,.bool p.wr,.bool p.hasUser,.bool p.hasPass,.string p.user,.slice s.sa p.pass.length s.sc,.bool p.present,.int .i64 p.code,.slice s.ua p.subs.length s.uc,.slice s.ca p.codes.length s.cc]
structure Pk.Ok (E : List TypeId) (B : Nat) (w : World) (p : Pk) (s : Ad) : Prop where
  pay : Bs E B w s.pa p.pay.length p.pay
  wp : Bs E B w s.wa p.wp.length p.wp
  pass : Bs E B w s.sa p.pass.length p.pass
  subs : Cs E B w s.ua p.subs.length 2 (subCells p.subs)
  codes : Cs E B w s.ca p.codes.length 1 (codeCells p.codes)
section
variable {E : List TypeId} {B : Nat} {w w' : World} {p : Pk} {s : Ad} {cs : Array Value}
theorem Pk.Ok.same (h : p.Ok E B w s) (a : Same E B w w') : p.Ok E B w' s:=⟨h.pay.same a,h.wp.same a,h.pass.same a,h.subs.same a,h.codes.same a⟩
theorem Pk.cells_one (p : Pk) (s : Ad) : (p.cells s).all (·.oneCell') = true:=by simp [Pk.cells,Value.oneCell']
abbrev Dg : Array Value:=
  #[.int .i64 0, .bool false, .bool false, .int .i64 0, .int .i64 0, .string ⟨#[]⟩, .slice none 0 0, .int .i64 0, .string ⟨#[]⟩, .bool false, .int .i64 0, .bool false,
    .string ⟨#[]⟩,.slice none 0 0,.int .i64 0,.bool false,.bool false,.bool false,.string ⟨#[]⟩,.slice none 0 0,.bool false,.int .i64 0,.slice none 0 0,.slice none 0 0]
end
end Go.Hub
namespace Go.Hub
open Go.Lib
def Ur (l : List UInt8) : Bool:=(decodeL l).1 == 65533 && (decodeL l).2 == 1
def Qu : Nat → Nat → List UInt8 → Int
  | 0,_,_=>-1
  | f + 1,i,l=>if l = [] then -1 else if Ur l || (decodeL l).1 == 0 then (i : Int) else Qu f (i + (decodeL l).2) (l.drop (decodeL l).2)
def chk (l : List UInt8) : Int:=Qu l.length 0 l
theorem x3t (f i : Nat) : Qu f i [] = -1:=by cases f <;> simp [Qu]
end Go.Hub
namespace Go.Vl
def szN (n : Int) : Nat:=if n < 0 ∨ 268435455 < n then 0 else if n < 128 then 1 else if n < 16384 then 2 else if n < 2097152 then 3 else 4
def Kc (n : Int) (i s : Nat) : Int:=n / 128 ^ i % 128 + if i + 1 < s then 128 else 0
def Gq (n : Int) (i s : Nat) : UInt8:=UInt8.ofNat (Kc n i s).toNat
def Gj (n : Int) : List UInt8:=(List.range (szN n)).map fun i=>Gq n i (szN n)
def rd (l : List UInt8) : Nat → Nat → Int → Int × Int × Int
  | 0,_,_=>(0,0,21)
  | k + 1,i,acc=>match l[i]? with
    | none=>(0,0,20)
    | some c=>if c.toNat < 128 then (if 0 < i ∧ c.toNat = 0 then (0,0,21) else (acc + (c.toNat % 128 : Nat) * 128 ^ i,i + 1,0)) else rd l k (i + 1) (acc + (c.toNat % 128 : Nat) * 128 ^ i)
def Sa (l : List UInt8) : Int × Int × Int:=rd l 4 0 0
theorem x3u (n : Int) (i s : Nat) : 0 ≤ Kc n i s ∧ Kc n i s < 256:=by
  unfold Kc;have a:=Int.emod_nonneg (n / 128 ^ i) (show (128 : Int) ≠ 0 by omega);have b:=Int.emod_lt_of_pos (n / 128 ^ i) (show (0 : Int) < 128 by omega)
  split <;> omega
theorem G3 (n : Int) (i s : Nat) : ((Gq n i s).toNat : Int) = Kc n i s:=by
  have:=x3u n i s;unfold Gq;rw [UInt8.toNat_ofNat'];omega
theorem Dy (n : Int) : (Gj n).length = szN n:=by simp [Gj]
theorem Md (n : Int) : szN n ≤ 4:=by unfold szN; (repeat' split) <;> omega
theorem Yi (n : Int) (i : Nat) (h : i < szN n) : (Gj n)[i]? = some (Gq n i (szN n)):=by simp [Gj,h]
theorem Yj (n : Int) (h : 0 ≤ n ∧ n ≤ 268435455) : 1 ≤ szN n:=by unfold szN; rw [if_neg (by omega)]; (repeat' split) <;> omega
end Go.Vl
namespace Go.Vl
theorem y6i {l : List UInt8} {i k : Nat} {a : Int} {c : UInt8} (h : l[i]? = some c) (b : ¬ c.toNat < 128) : rd l (k + 1) i a = rd l k (i + 1) (a + (c.toNat % 128 : Nat) * 128 ^ i):=by
  rw [rd,h]; simp only []; rw [if_neg b]
theorem y2v {l : List UInt8} {i k : Nat} {a : Int} {c : UInt8} (h : l[i]? = some c) (b : c.toNat < 128) (d : ¬ (0 < i ∧ c.toNat = 0)) : rd l (k + 1) i a = (a + (c.toNat % 128 : Nat) * 128 ^ i,(i : Int) + 1,0):=by
  rw [rd,h]; simp only []; rw [if_pos b,if_neg d]
theorem x9d (n : Int) (i s : Nat) (h : i + 1 < s) : ¬ (Gq n i s).toNat < 128 ∧ (((Gq n i s).toNat % 128 : Nat) : Int) = n / 128 ^ i % 128:=by
  have e:=G3 n i s;have a:=Int.emod_nonneg (n / 128 ^ i) (show (128 : Int) ≠ 0 by omega);have b:=Int.emod_lt_of_pos (n / 128 ^ i) (show (0 : Int) < 128 by omega);unfold Kc at e;rw [if_pos h] at e
  generalize n / 128 ^ i % 128 = d at *
  omega
theorem x3v (n : Int) (i : Nat) : (Gq n i (i + 1)).toNat < 128 ∧ ((Gq n i (i + 1)).toNat : Int) = n / 128 ^ i % 128:=by
  have e:=G3 n i (i + 1);have a:=Int.emod_nonneg (n / 128 ^ i) (show (128 : Int) ≠ 0 by omega);have b:=Int.emod_lt_of_pos (n / 128 ^ i) (show (0 : Int) < 128 by omega);unfold Kc at e;rw [if_neg (by omega)] at e
  generalize n / 128 ^ i % 128 = d at *
  omega
def Wt (l : List UInt8) (n : Int) (j s : Nat) : Prop:=∀ i,i < j → l[i]? = some (Gq n i s)
theorem Sb (n : Int) (j : Nat) (g : j < 4) : n % 128 ^ (j + 1) = n % 128 ^ j + n / 128 ^ j % 128 * 128 ^ j:=by
  have d : (128 : Int) ^ 0 = 1:=rfl;have a : (128 : Int) ^ 1 = 128:=rfl;have b : (128 : Int) ^ 2 = 16384:=rfl;have c : (128 : Int) ^ 3 = 2097152:=rfl;have f : (128 : Int) ^ 4 = 268435456:=rfl
  match j,g with
  | 0,_=>rw [show 0 + 1 = 1 from rfl,d,a]; omega
  | 1,_=>rw [show 1 + 1 = 2 from rfl,a,b]; omega
  | 2,_=>rw [show 2 + 1 = 3 from rfl,b,c]; omega
  | 3,_=>rw [show 3 + 1 = 4 from rfl,c,f]; omega
theorem Yk (l : List UInt8) (n : Int) (s : Nat) (b : s ≤ 4) : ∀ j, j < s → Wt l n j s → Sa l = rd l (4 - j) j (n % 128 ^ j)
  | 0,_,_=>by
    have : n % 128 ^ 0 = 0:=by rw [show (128 : Int) ^ 0 = 1 from rfl]; omega
    rw [this]; rfl
  | j + 1,hj,hb=>by
    rw [Yk l n s b j (by omega) (fun i c=>hb i (by omega)),show 4 - j = (4 - (j + 1)) + 1 from by omega]
    have a:=x9d n j s hj
    rw [y6i (hb j (by omega)) a.1,a.2]
    rw [Sb n j (by omega)]
theorem x0p (l : List UInt8) (n : Int) (h : 0 ≤ n ∧ n ≤ 268435455) (c : Wt l n (szN n) (szN n)) : Sa l = (n,(szN n : Int),0):=by
  obtain ⟨s,a⟩ : ∃ s,szN n = s + 1:=⟨szN n - 1,by have:=Yj n h; omega⟩;have j:=Md n;rw [a] at c j;rw [Yk l n (s + 1) j s (by omega) (fun i p=>c i (by omega)),show 4 - s = (3 - s) + 1 from by omega,a];have d:=x3v n s;rw [y2v (c s (by omega)) d.1]
  · have k : (Gq n s (s + 1)).toNat % 128 = (Gq n s (s + 1)).toNat := Nat.mod_eq_of_lt d.1
    rw [k,d.2]
    have o : n % 128 ^ s + n / 128 ^ s % 128 * 128 ^ s = n:=by
      have f : n < 128 ^ (s + 1):=by
        match s,a with
        | 0,a=>simp; unfold szN at a; (repeat' split at a) <;> omega
        | 1,a=>simp; unfold szN at a; (repeat' split at a) <;> omega
        | 2,a=>simp; unfold szN at a; (repeat' split at a) <;> omega
        | 3,a=>simp; omega
        | s + 4,a=>omega
      have g : n % 128 ^ (s + 1) = n:=Int.emod_eq_of_lt h.1 f;rw [Sb n s (by omega)] at g;exact g
    rw [o]
    simp
  rintro ⟨m,q⟩;have b : n / 128 ^ s % 128 = 0:=by omega
  match s,m,a,b with
  | 1,_,a,b=>simp at b; unfold szN at a; (repeat' split at a) <;> omega
  | 2,_,a,b=>simp at b; unfold szN at a; (repeat' split at a) <;> omega
  | 3,_,a,b=>simp at b; unfold szN at a; (repeat' split at a) <;> omega
  | s + 4,_,a,_=>omega
theorem Wu (n : Int) (l : List UInt8) : Wt (Gj n ++ l) n (szN n) (szN n):=fun i a=>by
  rw [List.getElem?_append_left (by rw [Dy]; exact a)]
  exact Yi n i a
end Go.Vl
namespace Go.Hub
open Go.Vl
def b8 (x : Int) : UInt8:=UInt8.ofNat (x % 256).toNat
theorem Ti (x : Int) : ((b8 x).toNat : Int) = x % 256:=by
  unfold b8;rw [UInt8.toNat_ofNat'];omega
def F9 (n : Int) : List UInt8:=[b8 (n / 256),b8 n]
def Dh (l : List UInt8) : List UInt8:=F9 l.length ++ l
def M2 (b : Bool) (n : Int) : Int:=if b then n else 0
def Da (v a b : Int) : Bool:=decide (a ≤ v) && decide (v ≤ b)
def K3 (s : ByteArray) : Bool:=decide (s.size ≤ 65535) && decide (chk s.toList < 0)
def Bv (p : Pk) : Bool:=if p.kind = 3 then decide (0 < p.qos) else Da p.kind 4 11
abbrev em : ByteArray:=⟨#[]⟩
abbrev x9e : ByteArray:=⟨#[77,81,84,84]⟩
def Ak (p : Pk) : Pk:=
  if p.kind = 1 then { kind:=p.kind,level:=p.level,client:=p.client,clean:=p.clean,keep:=p.keep,hasWill:=p.hasWill,hasUser:=p.hasUser,hasPass:=p.hasPass,wt:=(if p.hasWill then p.wt else em),wp:=(if p.hasWill then p.wp else []),wq:=(if p.hasWill then p.wq else 0),wr:=(if p.hasWill then p.wr else false),user:=(if p.hasUser then p.user else em),pass:=(if p.hasPass then p.pass else []) }
  else if p.kind = 2 then { kind:=p.kind,present:=p.present,code:=p.code }
  else if p.kind = 3 then { kind:=p.kind,id:=if 0 < p.qos then p.id else 0,dup:=p.dup && decide (0 < p.qos),retain:=p.retain,qos:=p.qos,topic:=p.topic,pay:=p.pay }
  else if p.kind = 8 ∨ p.kind = 10 then { kind:=p.kind,id:=p.id,subs:=p.subs }
  else if p.kind = 9 then { kind:=p.kind,id:=p.id,codes:=p.codes }
  else if Bv p then { kind:=p.kind,id:=p.id } else { kind:=p.kind }
def Gr (p q : Pk) : Bool:=
  decide (p.kind = q.kind) && (p.dup == q.dup) && (p.retain == q.retain) && decide (p.qos = q.qos) && decide (p.id = q.id) && decide (p.topic = q.topic) && decide (p.pay = q.pay) &&
  (decide (p.level = q.level) && decide (p.client = q.client) && (p.clean == q.clean) && decide (p.keep = q.keep) && (p.hasWill == q.hasWill) && (p.hasUser == q.hasUser) && (p.hasPass == q.hasPass) && decide (p.user = q.user) && decide (p.pass = q.pass) && (p.present == q.present) && decide (p.code = q.code)) &&
  (decide (p.wt = q.wt) && decide (p.wp = q.wp) && decide (p.wq = q.wq) && (p.wr == q.wr)) && decide (p.subs = q.subs) && decide (p.codes = q.codes)
theorem Hq {p q : Pk} : Gr p q = true ↔ p = q:=by
  constructor
  · intro h
    simp only [Gr,Bool.and_eq_true,decide_eq_true_eq,beq_iff_eq] at h;cases p; cases q;simp only at h;simp only [Pk.mk.injEq];simp only [h,and_self]
  rintro rfl;simp [Gr]
def y6j (m : Int) (l : List (ByteArray × Int)) : Bool:=l.all fun x=>K3 x.1 && Da x.2 0 m
def Qv (l : List Int) : Bool:=l.all fun c=>Da c 0 2 || decide (c = 128)
def Nf (p : Pk) : Bool:=
  (!Bv p || Da p.id 1 65535) &&
  (if p.kind = 1 then Da p.level 0 255 && Da p.keep 0 65535 && K3 p.client && K3 p.wt && decide (p.wp.length ≤ 65535) && Da p.wq 0 2 && K3 p.user && decide (p.pass.length ≤ 65535) && (p.hasUser || !p.hasPass)
   else if p.kind = 2 then Da p.code 0 5 && (decide (p.code = 0) || !p.present)
   else if p.kind = 3 then Da p.qos 0 2 && K3 p.topic
   else if p.kind = 8 then y6j 2 p.subs && decide (0 < p.subs.length)
   else if p.kind = 10 then y6j 0 p.subs && decide (0 < p.subs.length)
   else if p.kind = 9 then decide (0 < p.codes.length) && Qv p.codes
   else true)
def y2w (p : Pk) : Int:=M2 p.clean 2 + M2 p.hasWill 4 + p.wq * 8 + M2 p.wr 32 + M2 p.hasPass 64 + M2 p.hasUser 128
def M3 (p : Pk) : List UInt8:=
  Dh x9e.toList ++ [b8 p.level,b8 (y2w p)] ++ F9 p.keep ++ Dh p.client.toList ++ (if p.hasWill then Dh p.wt.toList ++ Dh p.wp else []) ++ (if p.hasUser then Dh p.user.toList else []) ++ (if p.hasPass then Dh p.pass else [])
def Us (k : Int) (x : ByteArray × Int) : List UInt8:=Dh x.1.toList ++ (if k = 8 then [b8 x.2] else [])
def Ac (p : Pk) : List UInt8:=
  if p.kind = 1 then M3 p
  else if p.kind = 2 then [b8 (M2 p.present 1),b8 p.code]
  else (if p.kind = 3 then Dh p.topic.toList else []) ++ (if Bv p then F9 p.id else []) ++ p.subs.flatMap (Us p.kind) ++ p.codes.map b8 ++ p.pay
def Bi (p : Pk) : Int:=
  p.kind * 16 + (if p.kind = 6 ∨ p.kind = 8 ∨ p.kind = 10 then 2 else if p.kind = 3 then M2 p.dup 8 + 2 * p.qos + M2 p.retain 1 else 0)
def Fu (p : Pk) : List UInt8:=b8 (Bi p) :: Gj (Ac p).length ++ Ac p
def Tj (p : Pk) : Bool:=
  Da p.kind 1 14 && Gr p (Ak p) && (!Bv p || Da p.id 1 65535) && Da p.qos 0 2 && K3 p.topic && K3 p.client && K3 p.user && K3 p.wt && Da p.wq 0 2 && decide (p.wp.length ≤ 65535) && decide (p.pass.length ≤ 65535) &&
  Da p.level 0 255 && Da p.keep 0 65535 && (!p.hasPass || p.hasUser) && Da p.code 0 5 && (!p.present || decide (p.code = 0)) &&
  (p.subs.all fun x=>K3 x.1 && Da x.2 0 2 && (!decide (p.kind = 10) || decide (x.2 = 0))) && Qv p.codes && (!(decide (p.kind = 8 ∨ p.kind = 10)) || decide (0 < p.subs.length)) && (!decide (p.kind = 9) || decide (0 < p.codes.length)) &&
  decide ((Ac p).length ≤ 8192)
def Gf (p : Pk) : List UInt8:=
  if p.kind = 1 then M3 p
  else if p.kind = 2 then [b8 (M2 p.present 1),b8 p.code]
  else if p.kind = 3 then Dh p.topic.toList ++ (if 0 < p.qos then F9 p.id else []) ++ p.pay
  else if Da p.kind 12 14 then []
  else F9 p.id ++ p.subs.flatMap (Us p.kind) ++ p.codes.map b8
theorem Hr {v a b : Int} : Da v a b = true ↔ a ≤ v ∧ v ≤ b:=by simp [Da]
theorem y2x : K3 em = true:=by unfold K3; simp only [Bool.and_eq_true,decide_eq_true_eq]; exact ⟨by decide,by simp [chk,Qu,ByteArray.toList_eq]⟩
theorem kind_cases {k : Int} (h : Da k 1 14 = true) : k = 1 ∨ k = 2 ∨ k = 3 ∨ k = 4 ∨ k = 5 ∨ k = 6 ∨ k = 7 ∨ k = 8 ∨ k = 9 ∨ k = 10 ∨ k = 11 ∨ k = 12 ∨ k = 13 ∨ k = 14:=by
  have:=Hr.1 h;omega
theorem Yl (p : Pk) (f : Da p.kind 1 14 = true) (a : p = Ak p) : Gf p = Ac p:=by
  unfold Gf Ac
  rcases kind_cases f with h | h | h | h | h | h | h | h | h | h | h | h | h | h <;> rw [h] <;> simp [Bv,h,Da]
  · have b : p.subs = [] := by rw [a]; simp [Ak, h]
    have c : p.codes = []:=by rw [a]; simp [Ak,h]
    simp [b,c]
  all_goals
    have d : p.pay = []:=by rw [a]; simp [Ak,h,Bv,Da]
    first
    | exact d
    | (have b : p.subs = [] := by rw [a]; simp [Ak, h, Bv, Da]
       have c : p.codes = []:=by rw [a]; simp [Ak,h,Bv,Da]
       simp [b,c,d])
end Go.Hub
namespace Go.Hub
open Go.Vl
structure Rd where
  l : List UInt8
  lk : Bool
def Rd.take (r : Rd) (n : Nat) : List UInt8 × Rd:=if r.l.length < n then (List.replicate n 0,⟨[],true⟩) else (r.l.take n,⟨r.l.drop n,r.lk⟩)
def Rd.one (r : Rd) : Int × Rd:=(((r.take 1).1.getD 0 0).toNat,(r.take 1).2)
def Rd.two (r : Rd) : Int × Rd:=(((r.take 2).1.getD 0 0).toNat * 256 + ((r.take 2).1.getD 1 0).toNat,(r.take 2).2)
def Rd.lump (r : Rd) : List UInt8 × Rd:=r.two.2.take r.two.1.toNat
def Rd.text (r : Rd) : ByteArray × Rd:=(⟨r.lump.1.toArray⟩,r.lump.2)
def Fs (f n : Int) : Bool:=decide (f / n % 2 = 1)
def Ie (c : Int) : Bool:=if c / 16 = 3 then decide (c / 2 % 4 < 3) && (decide (0 < c / 2 % 4) || !Fs c 8) else Da (c / 16) 1 14 && decide (Bi { kind:=c / 16 } = c)
def Rd.takeR (r : Rd) (n : Nat) : List UInt8 × Rd:=if r.lk = true ∨ r.l.length < n then ([],⟨r.l,true⟩) else (r.l.take n,⟨r.l.drop n,false⟩)
def Jq (l : List UInt8) : Int:=l.foldl (fun v c=>v * 256 + (c.toNat : Int)) 0
def Rd.numR (r : Rd) (n : Nat) : Int × Rd:=(Jq (r.takeR n).1,(r.takeR n).2)
def Rd.lumpR (r : Rd) : List UInt8 × Rd:=(r.numR 2).2.takeR (r.numR 2).1.toNat
def Rd.textR (r : Rd) : ByteArray × Rd:=(⟨r.lumpR.1.toArray⟩,r.lumpR.2)
def Me (p : Pk) (r : Rd) : Pk × Rd:=
  if p.hasWill then ({ p with wt:=r.textR.1,wp:=r.textR.2.lumpR.1 },r.textR.2.lumpR.2) else (p,r)
def Mf (p : Pk) (r : Rd) : Pk × Rd:=if p.hasUser then ({ p with user:=r.textR.1 },r.textR.2) else (p,r)
def Mg (p : Pk) (r : Rd) : Pk × Rd:=if p.hasPass then ({ p with pass:=r.lumpR.1 },r.lumpR.2) else (p,r)
def Sc (p : Pk) (r : Rd) : Pk × Rd:=
  let t:=r.textR
  let lv:=Rd.numR ⟨t.2.l,!decide (t.1 = x9e) || t.2.lk⟩ 1
  let f:=lv.2.numR 1
  let kp:=f.2.numR 2
  let cl:=kp.2.textR
  ({ p with level:=lv.1,keep:=kp.1,client:=cl.1,clean:=Fs f.1 2,hasWill:=Fs f.1 4,hasUser:=Fs f.1 128,hasPass:=Fs f.1 64,wq:=f.1 / 8 % 4,wr:=Fs f.1 32 },cl.2)
def y2b (p : Pk) (r : Rd) : Pk × Rd:=
  let h:=Sc p r
  let w:=Me h.1 h.2
  let u:=Mf w.1 w.2
  Mg u.1 u.2
def Jj : Nat → Pk → Rd → Pk × Rd
  | 0,p,r=>(p,r)
  | n + 1,p,r=>
    if r.lk = true ∨ r.l = [] then (p,r)
    else if p.kind = 8 then Jj n { p with subs:=p.subs ++ [(r.textR.1,(r.textR.2.numR 1).1)] } (r.textR.2.numR 1).2
    else Jj n { p with subs:=p.subs ++ [(r.textR.1,0)] } r.textR.2
def Ge : Nat → Pk → Rd → Pk × Rd
  | 0,p,r=>(p,r)
  | n + 1,p,r=>if r.lk = true ∨ r.l = [] then (p,r) else Ge n { p with codes:=p.codes ++ [(r.numR 1).1] } (r.numR 1).2
def Bt (c : Int) (r : Rd) : Pk × Rd:=
  if c / 16 = 1 then y2b { kind:=c / 16 } r
  else if c / 16 = 2 then ({ kind:=c / 16,present:=decide ((r.numR 1).1 = 1),code:=((r.numR 1).2.numR 1).1 },((r.numR 1).2.numR 1).2)
  else if c / 16 = 3 then
    let t:=r.textR
    let i : Int × Rd:=if 0 < c / 2 % 4 then t.2.numR 2 else (0,t.2)
    ({ kind:=c / 16,dup:=Fs c 8,qos:=c / 2 % 4,retain:=Fs c 1,topic:=t.1,id:=i.1,pay:=(i.2.takeR i.2.l.length).1 },(i.2.takeR i.2.l.length).2)
  else if Da (c / 16) 12 14 then ({ kind:=c / 16 },r)
  else
    let i:=r.numR 2
    let p : Pk:={ kind:=c / 16,id:=i.1 }
    if c / 16 = 8 ∨ c / 16 = 10 then Jj i.2.l.length p i.2 else if c / 16 = 9 then Ge i.2.l.length p i.2 else (p,i.2)
def H6 (c : Int) : Bool:=
  if c / 16 = 0 ∨ c / 16 = 15 then false
  else if c / 16 = 3 then !decide (c / 2 % 4 = 3) && (!Fs c 8 || !decide (c / 2 % 4 = 0))
  else if c / 16 = 6 ∨ c / 16 = 8 ∨ c / 16 = 10 then decide (c % 16 = 2) else decide (c % 16 = 0)
section
variable (lk : Bool) (y : List UInt8)
theorem B1 (n : Int) : (F9 n).length = 2:=rfl
theorem Wv (s : ByteArray) : (⟨s.toList.toArray⟩ : ByteArray) = s:=by rw [ByteArray.toList_eq]
theorem Bh (s : ByteArray) : s.toList.length = s.size:=by rw [ByteArray.toList_eq]; rfl
theorem Iy (x : List UInt8) : Rd.takeR ⟨x ++ y,false⟩ x.length = (x,⟨y,false⟩):=by
  unfold Rd.takeR;rw [if_neg (by simp)]
  simp
theorem N4 (v : Int) (h : 0 ≤ v ∧ v ≤ 255) : Rd.numR ⟨b8 v :: y,false⟩ 1 = (v,⟨y,false⟩):=by
  have:=Iy y [b8 v];have e : Rd.takeR ⟨b8 v :: y,false⟩ 1 = ([b8 v],⟨y,false⟩):=this;unfold Rd.numR;rw [e];simp [Jq,Ti];omega
theorem Kd (n : Int) (h : 0 ≤ n ∧ n ≤ 65535) : Rd.numR ⟨F9 n ++ y,false⟩ 2 = (n,⟨y,false⟩):=by
  have e:=Iy y (F9 n);rw [B1] at e;unfold Rd.numR;rw [e];simp [Jq,F9,Ti];omega
theorem x0q (x : List UInt8) (h : x.length ≤ 65535) : Rd.lumpR ⟨Dh x ++ y,false⟩ = (x,⟨y,false⟩):=by
  unfold Rd.lumpR Dh;rw [List.append_assoc,Kd (x ++ y) x.length (by omega)];exact Iy y x
theorem x0r (s : ByteArray) (h : s.size ≤ 65535) : Rd.textR ⟨Dh s.toList ++ y,false⟩ = (s,⟨y,false⟩):=by
  unfold Rd.textR;rw [x0q y s.toList (by rw [Bh]; exact h)];simp [Wv]
end
end Go.Hub
namespace Go.Hub
open Go.Vl
theorem Bz (x : List UInt8) : (Dh x).length = 2 + x.length:=by simp [Dh,F9]; omega
theorem Ww (n : Nat) (p : Pk) (a : Bool) : Ge n p ⟨[],a⟩ = (p,⟨[],a⟩):=by cases n <;> simp [Ge]
theorem M4 : ∀ (l : List Int) (n : Nat) (p : Pk), (∀ x ∈ l, 0 ≤ x ∧ x ≤ 255) → (l.map b8).length ≤ n → Ge n p ⟨l.map b8, false⟩ = ({ p with codes := p.codes ++ l }, ⟨[], false⟩)
  | [],n,p,_,_=>by simp [Ww]
  | x :: r,n,p,hl,hn=>by
    match n,hn with
    | 0,hn=>simp at hn
    | n + 1,hn=>
      unfold Ge
      rw [if_neg (by simp)]
      simp only [List.map_cons]
      rw [N4 _ x (hl x (by simp))]
      simp only
      rw [M4 r n _ (fun y a=>hl y (by simp [a])) (by simpa using hn)]
      simp
end Go.Hub
namespace Go.Hub
open Go.RowKit
structure Pk.In (w : World) (p : Pk) (s : Ad) : Prop where
  pay : Sl w s.pa p.pay.length 1 (p.pay.map u8)
  wp : Sl w s.wa p.wp.length 1 (p.wp.map u8)
  pass : Sl w s.sa p.pass.length 1 (p.pass.map u8)
  subs : Sl w s.ua p.subs.length 2 (subCells p.subs)
  codes : Sl w s.ca p.codes.length 1 (codeCells p.codes)
structure Pk.Len (p : Pk) : Prop where
  pay : p.pay.length ≤ 1000000
  wp : p.wp.length ≤ 1000000
  pass : p.pass.length ≤ 1000000
  subs : p.subs.length ≤ 1000000
  codes : p.codes.length ≤ 1000000
  topic : p.topic.size ≤ 1000000
  client : p.client.size ≤ 1000000
  wt : p.wt.size ≤ 1000000
  user : p.user.size ≤ 1000000
  each : ∀ x ∈ p.subs,x.1.size ≤ 1000000
section
variable {w w' : World} {p q : Pk} {s t : Ad}
theorem Pk.In.kept (h : p.In w s) (a : Kept [] w w') : p.In w' s:=⟨h.pay.kept a,h.wp.kept a,h.pass.kept a,h.subs.kept a,h.codes.kept a⟩
abbrev s0 : Ad:=⟨none,0,none,0,none,0,none,0,none,0⟩
theorem Ut (l : List (ByteArray × Int)) (i : Nat) (x : ByteArray × Int) (h : l[i]? = some x) : (subCells l)[i * 2]? = some (.string x.1) ∧ (subCells l)[i * 2 + 1]? = some (.int .i64 x.2):=by
  have a:=Fk (fun s : ByteArray × Int=>[Value.string s.1,.int .i64 s.2]) 2 (fun _=>rfl) l i x h 0 (.string x.1) rfl;have b:=Fk (fun s : ByteArray × Int=>[Value.string s.1,.int .i64 s.2]) 2 (fun _=>rfl) l i x h 1 (.int .i64 x.2) rfl;exact ⟨a,b⟩
theorem Tk (l : List Int) (i : Nat) (x : Int) (h : l[i]? = some x) : (codeCells l)[i]? = some (.int .i64 x):=by simp [codeCells,h]
theorem Bn {α : Type} (l : List α) (i : Nat) (h : i < l.length) : ∃ x,l[i]? = some x:=⟨l[i],by simp [h]⟩
theorem Ke {A : Option Addr} {l : List (ByteArray × Int)} (h : Sl w A l.length 2 (subCells l)) {b c i : Nat} {x : ByteArray × Int} (k : A = some ⟨b,c,none⟩) (d : l[i]? = some x) : w.rangeAt b (c + i * 2) [.string x.1,.int .i64 x.2]:=by
  have m : i < l.length:=(List.getElem?_eq_some_iff.1 d).1;refine h.row (by omega) k fun j u a=>?_;obtain ⟨f,g⟩:=Ut l i x d
  match j,a with
  | 0,a=>simp at a; subst a; exact f
  | 1,a=>simp at a; subst a; exact g
  | j + 2,a=>simp at a
theorem x0s {A : Option Addr} {l : List Int} (h : Sl w A l.length 1 (codeCells l)) {b a i : Nat} {x : Int} (d : A = some ⟨b,a,none⟩) (c : l[i]? = some x) : w.cell? ⟨b,a + i,none⟩ = some (.int .i64 x):=by
  have f : i < l.length:=(List.getElem?_eq_some_iff.1 c).1;exact h.cell (by omega) d (Tk l i x c)
theorem Iz {A : Option Addr} {l : List UInt8} (h : Sl w A l.length 1 (l.map u8)) {b a i : Nat} {x : UInt8} (d : A = some ⟨b,a,none⟩) (c : l[i]? = some x) : w.cell? ⟨b,a + i,none⟩ = some (.int .u8 x.toNat):=by
  have f : i < l.length:=(List.getElem?_eq_some_iff.1 c).1;exact h.cell (by omega) d (by simp [c,u8])
end
theorem Ig {a b : List UInt8} : (⟨a.toArray⟩ : ByteArray) = ⟨b.toArray⟩ ↔ a = b:=by
  constructor
  · intro h
    have:=congrArg (fun x : ByteArray=>x.data.toList) h
    simpa using this
  rintro rfl; rfl
theorem wrap_u8 (x : Int) : IntKind.u8.wrap x = x % 256:=by simp [IntKind.wrap_u8]
theorem Ym (x : Int) : u8 (b8 x) = .int .u8 (x % 256):=by unfold u8; rw [Ti]
end Go.Hub
namespace Go.Proofs.YtkdeedhjkjffpaaGreat
open Go.RowKit Go.Hub Go.Lib
theorem Z0 : (Tryz.prog.info? 3).map (·.size) = some 1:=by kernel_rfl
theorem Z1 : (Tryz.prog.info? 4).map (·.size) = some 1:=by kernel_rfl
theorem Z2 : (Tryz.prog.info? 9).map (·.size) = some 1:=by kernel_rfl
theorem Z3 : (Tryz.prog.info? 33).map (·.size) = some 1:=by kernel_rfl
theorem Z4 : (Tryz.prog.info? 79).map (·.size) = some 2:=by kernel_rfl
theorem Z5 : (Tryz.prog.info? 35).map (·.size) = some 4:=by kernel_rfl
theorem Z6 : (Tryz.prog.info? 36).map (·.size) = some 1:=by kernel_rfl
theorem Z7 : (Tryz.prog.info? 37).map (·.size) = some 1:=by kernel_rfl
theorem Z8 : (Tryz.prog.info? 39).map (·.size) = some 24:=by kernel_rfl
theorem Z9 : (Tryz.prog.info? 5).map (fun i=>(i.zero,i.size,i.bytes)) = some (some (.int .u8 0),1,1):=by kernel_rfl
theorem Za : (Tryz.prog.info? 5).map (·.size) = some 1:=by kernel_rfl
theorem Zb : (Tryz.prog.info? 79).map (fun i=>(i.zero,i.size,i.bytes)) = some (some (.agg #[(.string ⟨#[]⟩),(.int .i64 0)]),2,24):=by kernel_rfl
theorem Zc : (Tryz.prog.info? 3).map (fun i=>(i.zero,i.size,i.bytes)) = some (some (.int .i64 0),1,8):=by kernel_rfl
def Hd (p q : Pk) : Bool:=decide (p.wt = q.wt) && decide (p.wp = q.wp) && decide (p.wq = q.wq) && (p.wr == q.wr)
def Fv (p q : Pk) : Bool:=decide (p.level = q.level) && decide (p.client = q.client) && (p.clean == q.clean) && decide (p.keep = q.keep) && (p.hasWill == q.hasWill) && (p.hasUser == q.hasUser) && (p.hasPass == q.hasPass) && decide (p.user = q.user) && decide (p.pass = q.pass) && (p.present == q.present) && decide (p.code = q.code)
theorem x3w : (Tryz.prog.fieldsOf 79).toList = [{ name := "Filter", type := 9, offset := 0, embedded := false, tag := "", pkgPath := "", byteOffset := 0 }, { name := "Qos", type := 3, offset := 1, embedded := false, tag := "", pkgPath := "", byteOffset := 16 }] := by kernel_rfl
theorem x3x (x y : Operand) (a a' : ByteArray) (b b' : Int) (w : World) : (do eqGuard .neq 79 x y (.agg #[.string a,.int .i64 b]) (.agg #[.string a',.int .i64 b']); binOp .neq 79 (.agg #[.string a,.int .i64 b]) (.agg #[.string a',.int .i64 b']) : Sem Value).run Tryz.prog w = .ok (.bool (!decide ((a,b) = (a',b')))) w:=by
  rw [Sem.run_bind,run_eqGuard_agg w .neq 79 x y _ _ (by kernel_rfl)];simp only [Result.andThen_ok];rw [run_neq_struct,run_equalIn_struct w 9999 79 _ _ (by kernel_rfl) (by kernel_rfl)];rw [x3w];simp [go_sem]
  by_cases h1 : a = a' <;> by_cases h2 : b = b' <;> simp [h1,h2,G8]
theorem Dp {w : World} {A : Option Addr} {l : List Int} (h : Sl w A l.length 1 (codeCells l)) {b a i : Nat} {x : Int} (c : A = some ⟨b,a,none⟩) (d : l[i]? = some x) : w.cell? ⟨b,a + (i : Int).toNat * 1,none⟩ = some (.int .i64 x):=by
  rw [Int.toNat_natCast,Nat.mul_one]; exact x0s h c d
theorem Yn {α : Type} {l b : List α} {k : Nat} {d c : α} (h : l.take k = b.take k) (f : l[k]? = some d) (a : b[k]? = some c) (e : d = c) : l.take (k + 1) = b.take (k + 1):=by
  rw [List.take_add_one,List.take_add_one,h,f,a,e]
theorem Kf {w : World} {g : Nat} {t : TypeId} {p : Pk} {s : Ad} (B : Blk w g t (p.cells s)) : w.rangeAt g (0 + 12) [.string p.wt,.slice s.wa p.wp.length s.wc,.int .i64 p.wq,.bool p.wr]:=fun j u a=>by
  match j,a with
  | 0,a=>simp at a; subst a; exact B.cl rfl
  | 1,a=>simp at a; subst a; exact B.cl rfl
  | 2,a=>simp at a; subst a; exact B.cl rfl
  | 3,a=>simp at a; subst a; exact B.cl rfl
  | j + 4,a=>simp at a
theorem Fm (p q : Pk) : Gr p q = (decide (p.kind = q.kind) && (p.dup == q.dup) && (p.retain == q.retain) && decide (p.qos = q.qos) && decide (p.id = q.id) && decide (p.topic = q.topic) && decide (p.pay = q.pay) && Fv p q && Hd p q && decide (p.subs = q.subs) && decide (p.codes = q.codes)):=rfl
theorem Tl (a b : List UInt8) (A d : Option Addr) (c i : Nat) (w : World) (g : Sl w A a.length 1 (a.map u8)) (h : Sl w d b.length 1 (b.map u8)) : Calls Tryz.prog 99 #[.slice A a.length c,.slice d b.length i] w (fun e w'=>w = w' ∧ e = .returned (.bool (decide (a = b)))):=by
 refine Bw Tryz.func99 Tryz.ntmps99 fun _ f=>?_;refine pr f fun _ f=>?_;refine C.sk fun _ k=>?_;refine L.s f fun _ f=>?_;refine L.va f (E.toStr f rfl U33 U5 U9 (g)) fun _ f=>?_;refine L.s f fun _ f=>?_;refine L.va f (E.toStr f rfl U33 U5 U9 (h)) fun _ f=>?_;refine re f k ?_;exact ⟨rfl,by simp only [Ig]⟩
theorem x0t (p q : Pk) (s t : Ad) (w : World) (x : p.In w s) (IQ : q.In w t) : Calls Tryz.prog 101 #[.agg #[.string p.wt,.slice s.wa p.wp.length s.wc,.int .i64 p.wq,.bool p.wr],.agg #[.string q.wt,.slice t.wa q.wp.length t.wc,.int .i64 q.wq,.bool q.wr]] w (fun e w'=>Kept [] w w' ∧ e = .returned (.bool (Hd p q))):=by
 have c : Kept [] w w:=Kept.refl [] w;refine Bw Tryz.func101 Tryz.ntmps101 fun _ f=>?_;refine C.sk fun _ k=>?_;refine L.box f Aa (by decide) rfl rfl fun _ w1 g0 N f=>?_;obtain ⟨d,g,h,n,r⟩:=N.al;have l:=c.lo h;replace c:=c.z g;clear N g;refine L.box f Aa (by decide) rfl rfl fun _ w2 g1 N f=>?_;obtain ⟨v,g,i,o,u⟩:=N.al;have m:=c.lo i;have j : g0 ≠ g1:=by have:=d.lt; omega
 replace c:=c.z g;replace d:=d.z g;clear N g;refine pe f k fun _ f=>?_;refine C.sk fun _ k=>?_;(iterate 6 refine L.s f fun _ f=>?_);refine f.sD 10 rfl (fun h0 f=>?_) (fun h0 f=>?_)
 ·refine L.s f fun _ a=>?_;(iterate 3 refine L.s a fun _ a=>?_);refine L.cl a (Bm a Tryz.call99) (Tl _ _ _ _ _ _ _ (x.wp.kept c) (IQ.wp.kept c)) ?_ (hw:=a.y);rintro e a6 ⟨rfl,rfl⟩;refine ⟨_,rfl,fun _ a=>?_⟩;(iterate 2 refine L.s a fun _ a=>?_);refine a.sD 17 rfl (fun h1 a=>?_) (fun h1 a=>?_)
  ·refine L.s a fun _ b=>?_;(iterate 6 refine L.s b fun _ b=>?_);refine b.sD 24 rfl (fun h2 b=>?_) (fun h2 b=>?_)
   ·refine re b k ?_;exact ⟨c,by simp [Hd, *]⟩
   refine L.rn b fun _ b=>?_;have b:=b.sub (sv 4 (.bool false) sn);refine wn k ?_;refine Gc b ?_;exact ⟨c,by simp [Hd, *]⟩
  refine L.rn a fun _ a=>?_;have a:=a.sub (sv 4 (.bool false) sn);refine wn k ?_;refine Gc a ?_;exact ⟨c,by simp [Hd, *]⟩
 refine L.rn f fun _ f=>?_;have f:=f.sub (sv 4 (.bool false) sn);refine wn k ?_;refine Gc f ?_;exact ⟨c,by simp [Hd, *]⟩
theorem Wx (p q : Pk) (s t : Ad) (w : World) (IP : p.In w s) (IQ : q.In w t) : Calls Tryz.prog 100 #[.agg (p.cells s),.agg (q.cells t)] w (fun e w'=>Kept [] w w' ∧ e = .returned (.bool (Fv p q))):=by
 have m : Kept [] w w:=Kept.refl [] w;refine Bw Tryz.func100 Tryz.ntmps100 fun _ f=>?_;refine C.sk fun _ k=>?_;refine L.box f Aa (by decide) rfl rfl fun _ w1 g0 N f=>?_;obtain ⟨n,o,r,a1,a3⟩:=N.al;have x:=m.lo r;replace m:=m.z o;clear N o;refine L.box f Aa (by decide) rfl rfl fun _ w2 g1 N f=>?_;obtain ⟨a5,o,u,a2,a4⟩:=N.al;have a0:=m.lo u;have v : g0 ≠ g1:=by have:=n.lt; omega
 replace m:=m.z o;replace n:=n.z o;clear N o;refine pe f k fun _ f=>?_;refine C.sk fun _ k=>?_;(iterate 6 refine L.s f fun _ f=>?_);refine f.sD 10 rfl (fun h0 f=>?_) (fun h0 f=>?_)
 ·refine L.s f fun _ c=>?_;(iterate 6 refine L.s c fun _ c=>?_);refine c.sD 17 rfl (fun h1 c=>?_) (fun h1 c=>?_)
  ·refine L.s c fun _ d=>?_;(iterate 6 refine L.s d fun _ d=>?_);refine d.sD 24 rfl (fun h2 d=>?_) (fun h2 d=>?_)
   ·refine L.s d fun _ g=>?_;(iterate 6 refine L.s g fun _ g=>?_);refine g.sD 31 rfl (fun h3 g=>?_) (fun h3 g=>?_)
    ·refine L.s g fun _ h=>?_;(iterate 6 refine L.s h fun _ h=>?_);refine h.sD 38 rfl (fun h4 h=>?_) (fun h4 h=>?_)
     ·refine L.s h fun _ i=>?_;(iterate 6 refine L.s i fun _ i=>?_);refine i.sD 45 rfl (fun h5 i=>?_) (fun h5 i=>?_)
      ·refine L.s i fun _ j=>?_;(iterate 6 refine L.s j fun _ j=>?_);refine j.sD 52 rfl (fun h6 j=>?_) (fun h6 j=>?_)
       ·refine L.s j fun _ l=>?_;(iterate 6 refine L.s l fun _ l=>?_);refine l.sD 59 rfl (fun h7 l=>?_) (fun h7 l=>?_)
        ·refine L.s l fun _ a=>?_;(iterate 3 refine L.s a fun _ a=>?_);refine L.cl a (Bm a Tryz.call99) (Tl _ _ _ _ _ _ _ (IP.pass.kept m) (IQ.pass.kept m)) ?_ (hw:=a.y);rintro e ak ⟨rfl,rfl⟩;refine ⟨_,rfl,fun _ a=>?_⟩;(iterate 2 refine L.s a fun _ a=>?_);refine a.sD 66 rfl (fun h8 a=>?_) (fun h8 a=>?_)
         ·refine L.s a fun _ b=>?_;(iterate 6 refine L.s b fun _ b=>?_);refine b.sD 73 rfl (fun h9 b=>?_) (fun h9 b=>?_)
          ·refine re b k ?_;exact ⟨m,by simp [Fv, *]⟩
          refine L.rn b fun _ b=>?_;have b:=b.sub (sv 4 (.bool false) sn);refine wn k ?_;refine Gc b ?_;exact ⟨m,by simp [Fv, *]⟩
         refine L.rn a fun _ a=>?_;have a:=a.sub (sv 4 (.bool false) sn);refine wn k ?_;refine Gc a ?_;exact ⟨m,by simp [Fv, *]⟩
        refine L.rn l fun _ l=>?_;have l:=l.sub (sv 4 (.bool false) sn);refine wn k ?_;refine Gc l ?_;exact ⟨m,by simp [Fv, *]⟩
       refine L.rn j fun _ j=>?_;have j:=j.sub (sv 4 (.bool false) sn);refine wn k ?_;refine Gc j ?_;exact ⟨m,by simp [Fv, *]⟩
      refine L.rn i fun _ i=>?_;have i:=i.sub (sv 4 (.bool false) sn);refine wn k ?_;refine Gc i ?_;exact ⟨m,by simp [Fv, *]⟩
     refine L.rn h fun _ h=>?_;have h:=h.sub (sv 4 (.bool false) sn);refine wn k ?_;refine Gc h ?_;exact ⟨m,by simp [Fv, *]⟩
    refine L.rn g fun _ g=>?_;have g:=g.sub (sv 4 (.bool false) sn);refine wn k ?_;refine Gc g ?_;exact ⟨m,by simp [Fv, *]⟩
   refine L.rn d fun _ d=>?_;have d:=d.sub (sv 4 (.bool false) sn);refine wn k ?_;refine Gc d ?_;exact ⟨m,by simp [Fv, *]⟩
  refine L.rn c fun _ c=>?_;have c:=c.sub (sv 4 (.bool false) sn);refine wn k ?_;refine Gc c ?_;exact ⟨m,by simp [Fv, *]⟩
 refine L.rn f fun _ f=>?_;have f:=f.sub (sv 4 (.bool false) sn);refine wn k ?_;refine Gc f ?_;exact ⟨m,by simp [Fv, *]⟩
theorem x0u (l b : List (ByteArray × Int)) (A p : Option Addr) (c c' : Nat) (w : World) (A1 : Sl w A l.length 2 (subCells l)) (A2 : Sl w p b.length 2 (subCells b)) (hm : l.length ≤ 1000000000000) : Calls Tryz.prog 102 #[.slice A l.length c,.slice p b.length c'] w (fun e w'=>Kept [] w w' ∧ e = .returned (.bool (decide (l = b)))):=by
 have h : Kept [] w w:=Kept.refl [] w;refine Bw Tryz.func102 Tryz.ntmps102 fun _ f=>?_;refine pr f fun _ f=>?_;refine wp_seq_k fun _ k1=>?_;refine pr f fun _ f=>?_;refine f.sN 10 rfl (fun h0 f=>?_) (fun h0 f=>?_)
 ·refine C.cT f rfl ?_;refine rt f ?_;exact ⟨h,by rw [decide_eq_false]; intro e; subst e; omega⟩
 have aa:=h0;refine C.cF f rfl ?_;refine wp_skip (k1 _ _ ?_);refine wp_seq_k fun _ k1=>?_;refine pr f fun _ f=>?_;refine wp_block ?_;refine C.loop (fun gk a W=>∃ k : Nat,k + gk = l.length ∧ Kept [] w W ∧ l.take k = b.take k ∧ Fr 26 a [(0,.slice A l.length c),(1,.slice p b.length c'),(12,.int .i64 l.length),(13,.int .i64 k)]) (l.length) ?_ ?_
 ·exact ⟨0,by omega,h,rfl,f.sub (sx (sx (sx (sx sn))))⟩
 intro q _ o hI ad m;obtain ⟨k,hk,h,hq,g⟩:=hI
 try clear f
 refine pr g fun _ f=>?_;refine wp_seq_k fun _ k2=>?_;refine f.sD 14 rfl (fun h1 f=>?_) (fun h1 f=>?_)
 ·obtain ⟨d,v⟩:=Bn l k (by omega);obtain ⟨bk,ak,hA⟩:=A1.addr (by omega);obtain ⟨d',i⟩:=Bn b k (by omega);obtain ⟨ae,ab,t⟩:=A2.addr (by omega);refine C.cT f rfl ?_;refine wp_skip (k2 _ _ ?_);have g:=f.pk [0,1,12,13];refine wp_seq_k fun _ k2=>?_;refine wp_block ?_;refine pr g fun _ g=>?_;refine wp_seq_k fun _ k3=>?_;refine R.bT (S:=fun W=>Kept [] o W) (by kernel_rfl) (by kernel_rfl) (by exact (Kept.refl _ _).drewN 1) fun ht=>?_;have s:=dk o 1;have x:=dk o 1;obtain ⟨w2,j⟩ : ∃ W,W = o.drewN 1:=⟨_,rfl⟩;rw [← j] at s x ⊢;clear j;have ac:=s.size;refine rs [0,1,2] g fun _ g=>?_;refine R.u 3 g rfl ht s (fun W n=>(E.loadR g U79 rfl Z4 rfl (Ke (A1.kept (h.z n)) hA v) rfl)) fun _ g=>?_;refine rs [4,5,6] g fun _ g=>?_;refine R.u 7 g rfl ht s (fun W n=>(E.loadR g U79 rfl Z4 rfl (Ke (A2.kept (h.z n)) t i) rfl)) fun _ g=>?_;refine R.u 8 g rfl ht s (fun W n=>(E.neqV g rfl rfl (x3x _ _ _ _ _ _))) fun _ g=>?_;have a5:=s.size;replace h:=h.z s;clear s;refine R.dn k3 ?_;refine g.sN 24 rfl (fun r g=>?_) (fun r g=>?_)
  ·have a0:=r;refine C.cT g rfl ?_;refine rt g ?_;exact ⟨h,by rw [decide_eq_false]; intro e; subst e; rw [v] at i; cases i; exact absurd rfl a0⟩
  have y:=r;refine C.cF g rfl ?_;refine wp_skip (k2 _ _ ?_);refine C.region ?_;(iterate 2 refine L.s g fun _ g=>?_);refine wpList_nil (m _ _ (q - 1) ?_ ?_)
  ·omega
  exact ⟨k + 1,by omega,h,Yn hq v i y,g.sub (sx (sx (sx (sx sn))))⟩
 refine C.cF f rfl ?_;refine wp_exit (k1 _ _ ?_);have f:=f.sub sn;refine rt f ?_;exact ⟨h,by rw [decide_eq_true]; rw [List.take_of_length_le (by omega),List.take_of_length_le (by omega)] at hq; exact hq⟩
theorem x0v (l b : List (Int)) (A o : Option Addr) (c c' : Nat) (w : World) (A1 : Sl w A l.length 1 (codeCells l)) (A2 : Sl w o b.length 1 (codeCells b)) (hm : l.length ≤ 1000000000000) : Calls Tryz.prog 103 #[.slice A l.length c,.slice o b.length c'] w (fun e w'=>Kept [] w w' ∧ e = .returned (.bool (decide (l = b)))):=by
 have h : Kept [] w w:=Kept.refl [] w;refine Bw Tryz.func103 Tryz.ntmps103 fun _ f=>?_;refine pr f fun _ f=>?_;refine wp_seq_k fun _ k1=>?_;refine pr f fun _ f=>?_;refine f.sN 10 rfl (fun h0 f=>?_) (fun h0 f=>?_)
 ·refine C.cT f rfl ?_;refine rt f ?_;exact ⟨h,by rw [decide_eq_false]; intro e; subst e; omega⟩
 have a9:=h0;refine C.cF f rfl ?_;refine wp_skip (k1 _ _ ?_);refine wp_seq_k fun _ k1=>?_;refine pr f fun _ f=>?_;refine wp_block ?_;refine C.loop (fun gk a W=>∃ k : Nat,k + gk = l.length ∧ Kept [] w W ∧ l.take k = b.take k ∧ Fr 26 a [(0,.slice A l.length c),(1,.slice o b.length c'),(12,.int .i64 l.length),(13,.int .i64 k)]) (l.length) ?_ ?_
 ·exact ⟨0,by omega,h,rfl,f.sub (sx (sx (sx (sx sn))))⟩
 intro p _ n hI ad m;obtain ⟨k,hk,h,hq,g⟩:=hI
 try clear f
 refine pr g fun _ f=>?_;refine wp_seq_k fun _ k2=>?_;refine f.sD 14 rfl (fun h1 f=>?_) (fun h1 f=>?_)
 ·obtain ⟨d,v⟩:=Bn l k (by omega);obtain ⟨bk,ak,hA⟩:=A1.addr (by omega);obtain ⟨d',i⟩:=Bn b k (by omega);obtain ⟨ae,ab,r⟩:=A2.addr (by omega);refine C.cT f rfl ?_;refine wp_skip (k2 _ _ ?_);have g:=f.pk [0,1,12,13];refine wp_seq_k fun _ k2=>?_;refine wp_block ?_;refine pr g fun _ g=>?_;refine wp_seq_k fun _ k3=>?_;refine R.bT (S:=fun W=>Kept [] n W) (by kernel_rfl) (by kernel_rfl) (by exact (Kept.refl _ _).drewN 1) fun ht=>?_;have s:=dk n 1;have x:=dk n 1;obtain ⟨w2,j⟩ : ∃ W,W = n.drewN 1:=⟨_,rfl⟩;rw [← j] at s x ⊢;clear j;have ac:=s.size;refine rs [0,1,2] g fun _ g=>?_;refine R.u 3 g rfl ht s (fun W t=>(E.load g U3 rfl rfl (Dp (A1.kept (h.z t)) hA v))) fun _ g=>?_;refine rs [4,5,6] g fun _ g=>?_;refine R.u 7 g rfl ht s (fun W t=>(E.load g U3 rfl rfl (Dp (A2.kept (h.z t)) r i))) fun _ g=>?_;refine rs [8] g fun _ g=>?_;have a4:=s.size;replace h:=h.z s;clear s;refine R.dn k3 ?_;refine g.sN 24 rfl (fun q g=>?_) (fun q g=>?_)
  ·have a0:=q;refine C.cT g rfl ?_;refine rt g ?_;exact ⟨h,by rw [decide_eq_false]; intro e; subst e; rw [v] at i; cases i; exact absurd rfl a0⟩
  have y:=q;refine C.cF g rfl ?_;refine wp_skip (k2 _ _ ?_);refine C.region ?_;(iterate 2 refine L.s g fun _ g=>?_);refine wpList_nil (m _ _ (p - 1) ?_ ?_)
  ·omega
  exact ⟨k + 1,by omega,h,Yn hq v i y,g.sub (sx (sx (sx (sx sn))))⟩
 refine C.cF f rfl ?_;refine wp_exit (k1 _ _ ?_);have f:=f.sub sn;refine rt f ?_;exact ⟨h,by rw [decide_eq_true]; rw [List.take_of_length_le (by omega),List.take_of_length_le (by omega)] at hq; exact hq⟩
theorem x3y (p q : Pk) (s t : Ad) (w : World) (v : p.In w s) (x : q.In w t) (hl : p.subs.length ≤ 1000000) (au : p.codes.length ≤ 1000000) : Calls Tryz.prog 82 #[.agg (p.cells s),.agg (q.cells t)] w (fun e w'=>Kept [] w w' ∧ e = .returned (.bool (Gr p q))):=by
 have b : Kept [] w w:=Kept.refl [] w;refine Bw Tryz.func82 Tryz.ntmps82 fun _ f=>?_;refine C.sk fun _ k=>?_;refine L.box f Aa (by decide) rfl rfl fun _ w1 g0 N f=>?_;obtain ⟨i,h,a0,a5,a7⟩:=N.al;have a3:=b.lo a0;replace b:=b.z h;clear N h;refine L.box f Aa (by decide) rfl rfl fun _ w2 g1 N f=>?_;obtain ⟨u,h,a1,a6,a8⟩:=N.al;have a4:=b.lo a1;have a2 : g0 ≠ g1:=by have:=i.lt; omega
 replace b:=b.z h;replace i:=i.z h;clear N h;refine pe f k fun _ f=>?_;refine C.sk fun _ k=>?_;(iterate 6 refine L.s f fun _ f=>?_);refine f.sD 10 rfl (fun h0 f=>?_) (fun h0 f=>?_)
 ·refine L.s f fun _ l=>?_;(iterate 6 refine L.s l fun _ l=>?_);refine l.sD 17 rfl (fun h1 l=>?_) (fun h1 l=>?_)
  ·refine L.s l fun _ m=>?_;(iterate 6 refine L.s m fun _ m=>?_);refine m.sD 24 rfl (fun h2 m=>?_) (fun h2 m=>?_)
   ·refine L.s m fun _ n=>?_;(iterate 6 refine L.s n fun _ n=>?_);refine n.sD 31 rfl (fun h3 n=>?_) (fun h3 n=>?_)
    ·refine L.s n fun _ o=>?_;(iterate 6 refine L.s o fun _ o=>?_);refine o.sD 38 rfl (fun h4 o=>?_) (fun h4 o=>?_)
     ·refine L.s o fun _ r=>?_;(iterate 6 refine L.s r fun _ r=>?_);refine r.sD 45 rfl (fun h5 r=>?_) (fun h5 r=>?_)
      ·refine L.s r fun _ c=>?_;(iterate 3 refine L.s c fun _ c=>?_);refine L.cl c (Bm c Tryz.call99) (Tl _ _ _ _ _ _ _ (v.pay.kept b) (x.pay.kept b)) ?_ (hw:=c.y);rintro e av ⟨rfl,rfl⟩;refine ⟨_,rfl,fun _ c=>?_⟩;(iterate 2 refine L.s c fun _ c=>?_);refine c.sD 52 rfl (fun h6 c=>?_) (fun h6 c=>?_)
       ·refine L.s c fun _ d=>?_;refine L.s d fun _ d=>?_;refine L.cl d (Bm d Tryz.call100) (Wx p q s t _ (v.kept b) (x.kept b)) ?_ (hw:=d.y);rintro e w3 ⟨h,rfl⟩;refine ⟨_,rfl,fun _ d=>?_⟩;have a9:=h.size;replace b:=b.z h;replace i:=i.z h;replace u:=u.z h;clear h;(iterate 2 refine L.s d fun _ d=>?_);refine d.split 57 rfl (fun h7 d=>?_) (fun h7 d=>?_)
        ·refine L.s d fun _ a=>?_;refine L.va a (E.loadR a U35 rfl Z5 rfl (Kf i) rfl) (hw:=a.y) fun _ a=>?_;refine L.s a fun _ a=>?_;refine L.va a (E.loadR a U35 rfl Z5 rfl (Kf u) rfl) (hw:=a.y) fun _ a=>?_;refine L.cl a (Bm a Tryz.call101) (x0t p q s t _ (v.kept b) (x.kept b)) ?_ (hw:=a.y);rintro e w4 ⟨h,rfl⟩;refine ⟨_,rfl,fun _ a=>?_⟩;have aa:=h.size;replace b:=b.z h;replace i:=i.z h;replace u:=u.z h;clear h;(iterate 2 refine L.s a fun _ a=>?_);refine a.split 64 rfl (fun h8 a=>?_) (fun h8 a=>?_)
         ·refine L.s a fun _ g=>?_;(iterate 3 refine L.s g fun _ g=>?_);refine L.cl g (Bm g Tryz.call102) (x0u _ _ _ _ _ _ _ (v.subs.kept b) (x.subs.kept b) (by omega)) ?_ (hw:=g.y);rintro e w5 ⟨h,rfl⟩;refine ⟨_,rfl,fun _ g=>?_⟩;have ab:=h.size;replace b:=b.z h;replace i:=i.z h;replace u:=u.z h;clear h;(iterate 2 refine L.s g fun _ g=>?_);refine g.sD 71 rfl (fun h9 g=>?_) (fun h9 g=>?_)
          ·refine L.s g fun _ j=>?_;(iterate 3 refine L.s j fun _ j=>?_);refine L.cl j (Bm j Tryz.call103) (x0v _ _ _ _ _ _ _ (v.codes.kept b) (x.codes.kept b) (by omega)) ?_ (hw:=j.y);rintro e w6 ⟨h,rfl⟩;refine ⟨_,rfl,fun _ j=>?_⟩;have ac:=h.size;replace b:=b.z h;replace i:=i.z h;replace u:=u.z h;clear h;refine re j k ?_;exact ⟨b,by rw [Fm]; simp [*]⟩
          refine L.rn g fun _ g=>?_;have g:=g.sub (sv 4 (.bool false) sn);refine wn k ?_;refine Gc g ?_;exact ⟨b,by rw [Fm]; simp [*]⟩
         refine L.rn a fun _ a=>?_;have a:=a.sub (sv 4 (.bool false) sn);refine wn k ?_;refine Gc a ?_;exact ⟨b,by rw [Fm]; simp [*]⟩
        refine L.rn d fun _ d=>?_;have d:=d.sub (sv 4 (.bool false) sn);refine wn k ?_;refine Gc d ?_;exact ⟨b,by rw [Fm]; simp [*]⟩
       refine L.rn c fun _ c=>?_;have c:=c.sub (sv 4 (.bool false) sn);refine wn k ?_;refine Gc c ?_;exact ⟨b,by rw [Fm]; simp [*]⟩
      refine L.rn r fun _ r=>?_;have r:=r.sub (sv 4 (.bool false) sn);refine wn k ?_;refine Gc r ?_;exact ⟨b,by rw [Fm]; simp [*]⟩
     refine L.rn o fun _ o=>?_;have o:=o.sub (sv 4 (.bool false) sn);refine wn k ?_;refine Gc o ?_;exact ⟨b,by rw [Fm]; simp [*]⟩
    refine L.rn n fun _ n=>?_;have n:=n.sub (sv 4 (.bool false) sn);refine wn k ?_;refine Gc n ?_;exact ⟨b,by rw [Fm]; simp [*]⟩
   refine L.rn m fun _ m=>?_;have m:=m.sub (sv 4 (.bool false) sn);refine wn k ?_;refine Gc m ?_;exact ⟨b,by rw [Fm]; simp [*]⟩
  refine L.rn l fun _ l=>?_;have l:=l.sub (sv 4 (.bool false) sn);refine wn k ?_;refine Gc l ?_;exact ⟨b,by rw [Fm]; simp [*]⟩
 refine L.rn f fun _ f=>?_;have f:=f.sub (sv 4 (.bool false) sn);refine wn k ?_;refine Gc f ?_;exact ⟨b,by rw [Fm]; simp [*]⟩
theorem Mh (l : List UInt8) (A : Option Addr) (c : Nat) (w : World) (t : Sl w A l.length 1 (l.map u8)) (hm : l.length ≤ 100000000) : Calls Tryz.prog 53 #[.slice A l.length c] w (fun e w'=>Kept [] w w' ∧ ∃ A c,e = .returned (.slice A l.length c) ∧ Fresh w w' 5 1 A l.length c (l.map u8)):=by
 have g : Kept [] w w:=Kept.refl [] w;refine Bw Tryz.func53 Tryz.ntmps53 fun _ f=>?_;refine pr f fun _ f=>?_;refine wp_seq_k fun _ n=>C.sk fun _ k2=>?_;refine L.s f fun _ f=>?_;refine L.va f (E.eqlNil f U33 rfl rfl) fun _ f=>?_;refine wn k2 ?_;refine f.split 4 rfl (fun x f=>?_) (fun x f=>?_)
 ·have j : A = none:=by simpa using x
  have m : l = []:=by
   rcases l with _ | ⟨d,r⟩
   ·rfl
   obtain ⟨b,a6,e⟩:=t.addr (by simp);rw [j] at e;cases e
  refine C.cT f rfl ?_;refine rt f ?_;subst m;exact ⟨g,none,0,rfl,Fresh.nil _ _ _ _⟩
 refine C.cF f rfl ?_;refine wp_skip (n _ _ ?_);refine C.sk fun _ n=>?_;refine L.bN f Aa (by decide) U33 Za fun _ w1 v N f=>?_;have p:=N.own (k:=0) (size:=1) rfl (by decide);obtain ⟨a3,q,i,y,a0⟩:=N.al;have u:=g.lo i;replace g:=g.z q;clear N q;refine L.s f fun _ f=>?_;refine L.append f Aa (by decide) U33 Z9 rfl rfl rfl rfl (p) (t.kept g) (Nz) (by unfold maxLen; omega) (by omega) fun _ w2 A2 c2 h f=>?_;have a : Kept [v] w1 w2:=by simpa [Value.ownBlock] using h.kept
 have o:=h.next (⟨p,fun b hb=>by simp at hb; omega⟩ : Fresh w w1 5 1 (some ⟨v,0,none⟩) 0 0 _) g.size
 have a1:=a.size;replace g:=g.trans a (B6 (by omega));clear a;refine re f n ?_;simp only [Nat.zero_add] at o f ⊢;exact ⟨g,_,_,rfl,by simpa using o⟩
theorem Wy (l : List (ByteArray × Int)) (A : Option Addr) (c : Nat) (w : World) (t : Sl w A l.length 2 (subCells l)) (hm : l.length ≤ 100000000) : Calls Tryz.prog 54 #[.slice A l.length c] w (fun e w'=>Kept [] w w' ∧ ∃ A c,e = .returned (.slice A l.length c) ∧ Fresh w w' 79 2 A l.length c (subCells l)):=by
 have g : Kept [] w w:=Kept.refl [] w;refine Bw Tryz.func54 Tryz.ntmps54 fun _ f=>?_;refine pr f fun _ f=>?_;refine wp_seq_k fun _ n=>C.sk fun _ k2=>?_;refine L.s f fun _ f=>?_;refine L.va f (E.eqlNil f U36 rfl rfl) fun _ f=>?_;refine wn k2 ?_;refine f.split 4 rfl (fun x f=>?_) (fun x f=>?_)
 ·have j : A = none:=by simpa using x
  have m : l = []:=by
   rcases l with _ | ⟨d,r⟩
   ·rfl
   obtain ⟨b,a6,e⟩:=t.addr (by simp);rw [j] at e;cases e
  refine C.cT f rfl ?_;refine rt f ?_;subst m;exact ⟨g,none,0,rfl,Fresh.nil _ _ _ _⟩
 refine C.cF f rfl ?_;refine wp_skip (n _ _ ?_);refine C.sk fun _ n=>?_;refine L.bN f Aa (by decide) U36 Z4 fun _ w1 v N f=>?_;have p:=N.own (k:=0) (size:=2) rfl (by decide);obtain ⟨a3,q,i,y,a0⟩:=N.al;have u:=g.lo i;replace g:=g.z q;clear N q;refine L.s f fun _ f=>?_;refine L.append f Aa (by decide) U36 Zb rfl rfl rfl rfl (p) (t.kept g) (Th _) (by unfold maxLen; omega) (by omega) fun _ w2 A2 c2 h f=>?_;have a : Kept [v] w1 w2:=by simpa [Value.ownBlock] using h.kept
 have o:=h.next (⟨p,fun b hb=>by simp at hb; omega⟩ : Fresh w w1 79 2 (some ⟨v,0,none⟩) 0 0 _) g.size
 have a1:=a.size;replace g:=g.trans a (B6 (by omega));clear a;refine re f n ?_;simp only [Nat.zero_add] at o f ⊢;exact ⟨g,_,_,rfl,by simpa using o⟩
theorem Wz (l : List Int) (A : Option Addr) (c : Nat) (w : World) (t : Sl w A l.length 1 (codeCells l)) (hm : l.length ≤ 100000000) : Calls Tryz.prog 55 #[.slice A l.length c] w (fun e w'=>Kept [] w w' ∧ ∃ A c,e = .returned (.slice A l.length c) ∧ Fresh w w' 3 1 A l.length c (codeCells l)):=by
 have g : Kept [] w w:=Kept.refl [] w;refine Bw Tryz.func55 Tryz.ntmps55 fun _ f=>?_;refine pr f fun _ f=>?_;refine wp_seq_k fun _ n=>C.sk fun _ k2=>?_;refine L.s f fun _ f=>?_;refine L.va f (E.eqlNil f U37 rfl rfl) fun _ f=>?_;refine wn k2 ?_;refine f.split 4 rfl (fun x f=>?_) (fun x f=>?_)
 ·have j : A = none:=by simpa using x
  have m : l = []:=by
   rcases l with _ | ⟨d,r⟩
   ·rfl
   obtain ⟨b,a6,e⟩:=t.addr (by simp);rw [j] at e;cases e
  refine C.cT f rfl ?_;refine rt f ?_;subst m;exact ⟨g,none,0,rfl,Fresh.nil _ _ _ _⟩
 refine C.cF f rfl ?_;refine wp_skip (n _ _ ?_);refine C.sk fun _ n=>?_;refine L.bN f Aa (by decide) U37 Z0 fun _ w1 v N f=>?_;have p:=N.own (k:=0) (size:=1) rfl (by decide);obtain ⟨a3,q,i,y,a0⟩:=N.al;have u:=g.lo i;replace g:=g.z q;clear N q;refine L.s f fun _ f=>?_;refine L.append f Aa (by decide) U37 Zc rfl rfl rfl rfl (p) (t.kept g) (Qt _) (by unfold maxLen; omega) (by omega) fun _ w2 A2 c2 h f=>?_;have a : Kept [v] w1 w2:=by simpa [Value.ownBlock] using h.kept
 have o:=h.next (⟨p,fun b hb=>by simp at hb; omega⟩ : Fresh w w1 3 1 (some ⟨v,0,none⟩) 0 0 _) g.size
 have a1:=a.size;replace g:=g.trans a (B6 (by omega));clear a;refine re f n ?_;simp only [Nat.zero_add] at o f ⊢;exact ⟨g,_,_,rfl,by simpa using o⟩
end Go.Proofs.YtkdeedhjkjffpaaGreat
namespace Go.Proofs.YtkdeedhjkjffpaaGreat
open Go.RowKit Go.Hub Go.Lib Go.Vl
theorem Zd : (Tryz.prog.info? 5).map (fun i=>(i.zero,i.size)) = some (some (.int .u8 0),1):=by kernel_rfl
theorem Ze (a : Int) (b : Int) : Instr.fill (fun i=>some (i * 1,1)) ((Array.range (2 * 1)).map fun j=>(Value.cells (.int .u8 0))[j % (Value.cells (.int .u8 0)).size]!) [(0,.int .u8 a),(1,.int .u8 b)] = some #[.int .u8 a,.int .u8 b]:=by kernel_rfl
theorem x3z {p : Pk} (h : p.kind = 3) : Bv p = decide (0 < p.qos):=by simp [Bv,h]
theorem Dz {p : Pk} (h : 4 ≤ p.kind ∧ p.kind ≤ 11) : Bv p = true:=by unfold Bv; rw [if_neg (by omega)]; simp [Da]; omega
theorem x4a {p : Pk} (h : ¬ p.kind = 3) (a : ¬ (4 ≤ p.kind ∧ p.kind ≤ 11)) : Bv p = false:=by unfold Bv; rw [if_neg h]; simp [Da]; omega
def NewB (l : List UInt8) (w : World) (e : Ending) (w' : World) : Prop:=Kept [] w w' ∧ ∃ A c,e = .returned (.slice A l.length c) ∧ Fresh w w' 5 1 A l.length c (l.map u8)
def AppPost (w : World) (A : Option Addr) (k c : Nat) (xs : List Value) (b : List UInt8) (e : Ending) (w' : World) : Prop:=∃ A' c',e = .returned (.slice A' (k + b.length) c') ∧ App w w' 5 1 A k c xs (b.map u8) b.length A' c'
theorem _root_.Go.Hub.App.pre {w w1 w' : World} {e size k c m f : Nat} {A d : Option Addr} {xs a : List Value} (h : App w1 w' e size A k c xs a m d f) (g : Kept [] w w1) : App w w' e size A k c xs a m d f:=
  ⟨h.own,(g.mono (L':=(Value.slice A k c).ownBlock.toList) (by simp)).trans h.kept (fun x l _=>l),fun b i=>(h.where_ b i).imp id fun j=>Nat.le_trans g.size j⟩
theorem _root_.Go.Hub.App.seq {w w1 w' : World} {e size k c m f o n : Nat} {A d l : Option Addr} {xs j p : List Value} (h : App w w1 e size A k c xs j m d f) (g : App w1 w' e size d (k + m) f (xs ++ j) p o l n) : App w w' e size A k c xs (j ++ p) (m + o) l n:=
  ⟨by rw [← List.append_assoc,← Nat.add_assoc]; exact g.own,h.kept.trans g.kept fun x r q=>by
      have i : d.map (·.block) = some x:=(Ag d (k + m) f x).1 (by simpa using r)
      rcases h.where_ x i with a | a
      · have := (Ag A k c x).2 a
        simpa using this
      omega,
   fun b i=>by
      rcases g.where_ b i with a | a
      · exact h.where_ b a
      exact .inr (Nat.le_trans h.kept.size a)⟩
theorem _root_.Go.Hub.Blk.sl1 {w : World} {g : Nat} {t : TypeId} {cs : Array Value} (h : Blk w g t cs) {n : Nat} (a : cs.size = n) : Sl w (some ⟨g,0,none⟩) n 1 cs.toList:=
  ⟨by simp [a],fun _=>⟨g,0,rfl,h.lt,fun j u b=>by rw [Nat.zero_add]; exact h.cl b⟩⟩
theorem W0 (b : ByteArray) : (Dh b.toList).map u8 = (F9 (b.size : Int)).map u8 ++ b.toList.map u8:=by simp [Dh,Bh]
theorem x4b (b : ByteArray) : (Dh b.toList).length = (F9 (b.size : Int)).length + b.size:=by rw [Bz,B1,Bh]
theorem x4c {A : Option Addr} {k c : Nat} {b : ByteArray} : (Ending.returned (.slice A (k + (F9 (b.size : Int)).length + b.size) c)) = .returned (.slice A (k + (Dh b.toList).length) c):=by
  rw [show k + (F9 (b.size : Int)).length + b.size = k + (Dh b.toList).length by simp [Dh,Bh,B1]; omega]
theorem F8 (v a b : Int) (w : World) : Calls Tryz.prog 92 #[.int .i64 v,.int .i64 a,.int .i64 b] w (fun e w'=>w = w' ∧ e = .returned (.bool (Da v a b))):=by
 refine Bw Tryz.func92 Tryz.ntmps92 fun _ f=>?_;refine pr f fun _ f=>?_;refine C.sk fun _ k=>?_;(iterate 4 refine L.s f fun _ f=>?_);refine f.sD 10 rfl (fun c f=>?_) (fun c f=>?_)
 ·refine re f k ?_;exact ⟨rfl,by simp [Da, *]⟩
 refine L.rn f fun _ f=>?_;have f:=f.sub (sv 6 (.bool false) sn);refine wn k ?_;refine Gc f ?_;exact ⟨rfl,by simp [Da, *]⟩
theorem Tm (b : Bool) (n : Int) (w : World) : Calls Tryz.prog 79 #[.bool b,.int .i64 n] w (fun e w'=>w = w' ∧ e = .returned (.int .i64 (M2 b n))):=by
 refine Bw Tryz.func79 Tryz.ntmps79 fun _ f=>?_;refine pr f fun _ f=>?_;refine wp_seq_k fun _ k=>?_;refine pr f fun _ f=>?_;refine C.sb f (fun a f=>?_) (fun a f=>?_)
 ·refine rt f ?_;exact ⟨rfl,by simp [M2, *]⟩
 refine wp_skip (k _ _ ?_);refine rt f ?_;exact ⟨rfl,by simp [M2, *]⟩
theorem x4d (p : Pk) (s : Ad) (w : World) : Calls Tryz.prog 95 #[.agg (p.cells s)] w (fun e w'=>Kept [] w w' ∧ e = .returned (.bool (Bv p))):=by
 have b : Kept [] w w:=Kept.refl [] w;refine Bw Tryz.func95 Tryz.ntmps95 fun _ f=>?_;refine C.sk fun _ k=>?_;refine L.box f Aa (by decide) rfl rfl fun _ w1 y N f=>?_;obtain ⟨j,q,d,h,i⟩:=N.al;have g:=b.lo d;replace b:=b.z q;clear N q;refine pe f k fun _ f=>?_;refine wp_seq_k fun _ k=>?_;refine pr f fun _ f=>?_;refine wp_block ?_;refine pr f fun _ f=>?_;refine C.sp f (fun l f=>?_) (fun l f=>?_)
 ·refine rt f ?_;exact ⟨b,by rw [x3z (by omega)]⟩
 refine wp_seq_k fun _ c=>?_;refine pr f fun _ f=>?_;refine C.sp f (fun m f=>?_) (fun m f=>?_)
 ·refine wp_skip (c _ _ ?_);have a:=f.pk [2,10];refine C.cT a rfl ?_;refine rt a ?_;exact ⟨b,by rw [Dz (by omega)]⟩
 refine pr f fun _ f=>?_;refine C.sp f (fun n f=>?_) (fun n f=>?_)
 ·refine wp_skip (c _ _ ?_);have a:=f.pk [2,10];refine C.cT a rfl ?_;refine rt a ?_;exact ⟨b,by rw [Dz (by omega)]⟩
 refine pr f fun _ f=>?_;refine C.sp f (fun o f=>?_) (fun o f=>?_)
 ·refine wp_skip (c _ _ ?_);have a:=f.pk [2,10];refine C.cT a rfl ?_;refine rt a ?_;exact ⟨b,by rw [Dz (by omega)]⟩
 refine pr f fun _ f=>?_;refine C.sp f (fun r f=>?_) (fun r f=>?_)
 ·refine wp_skip (c _ _ ?_);have a:=f.pk [2,10];refine C.cT a rfl ?_;refine rt a ?_;exact ⟨b,by rw [Dz (by omega)]⟩
 refine pr f fun _ f=>?_;refine C.sp f (fun t f=>?_) (fun t f=>?_)
 ·refine wp_skip (c _ _ ?_);have a:=f.pk [2,10];refine C.cT a rfl ?_;refine rt a ?_;exact ⟨b,by rw [Dz (by omega)]⟩
 refine pr f fun _ f=>?_;refine C.sp f (fun u f=>?_) (fun u f=>?_)
 ·refine wp_skip (c _ _ ?_);have a:=f.pk [2,10];refine C.cT a rfl ?_;refine rt a ?_;exact ⟨b,by rw [Dz (by omega)]⟩
 refine pr f fun _ f=>?_;refine C.sp f (fun v f=>?_) (fun v f=>?_)
 ·refine wp_skip (c _ _ ?_);have a:=f.pk [2,10];refine C.cT a rfl ?_;refine rt a ?_;exact ⟨b,by rw [Dz (by omega)]⟩
 refine Ib f c fun _ f=>?_;refine C.sp f (fun x f=>?_) (fun x f=>?_)
 ·refine rt f ?_;exact ⟨b,by rw [Dz (by omega)]⟩
 refine wp_skip (k _ _ ?_);refine rt f ?_;exact ⟨b,by rw [x4a (by omega) (by omega)]⟩
theorem Uu (A : Option Addr) (k c : Nat) (xs : List Value) (n : Int) (w : World) (O : Own w 5 1 (.slice A k c) k xs) (y : k ≤ 10000000000000) : Calls Tryz.prog 98 #[.slice A k c,.int .i64 n] w (AppPost w A k c xs (F9 n)):=by
 have d : Kept [] w w:=Kept.refl [] w;refine Bw Tryz.func98 Tryz.ntmps98 fun _ f=>?_;refine pr f fun _ f=>?_;refine C.sk fun _ r=>?_;(iterate 2 refine L.s f fun _ f=>?_);refine L.va f (E.shrN f rfl rfl (by decide) (by decide) (show n / 2 ^ (8 : Int).toNat = n / 256 from rfl)) fun _ f=>?_;refine L.va f (E.conv f U3 U5 rfl (wrap_u8 _)) fun _ f=>?_;refine L.s f fun _ f=>?_;refine L.va f (E.conv f U3 U5 rfl (wrap_u8 _)) fun _ f=>?_;refine L.buildSlice f Aa (by decide) (pL f rfl) U33 Zd rfl rfl (Ze _ _) fun _ w1 x N f=>?_;obtain ⟨h,q,g,l,m⟩:=N.al;have i:=d.lo g;replace d:=d.z q;clear N q;refine L.append f Aa (by decide) U33 Z9 rfl rfl rfl rfl (O.kept d (by simp)) (Blk.sl1 h rfl) (by intro u j; simp at j; rcases j with rfl | rfl <;> rfl) (by unfold maxLen; omega) (by omega) fun _ w2 t v b f=>?_;have a:=b.kept;have p:=b.pre d;have o:=a.size;clear a;refine re f r ?_;exact ⟨_,_,rfl,by simpa [F9,Ym] using p⟩
theorem x0w (A : Option Addr) (k c : Nat) (xs : List Value) (b : ByteArray) (w : World) (O : Own w 5 1 (.slice A k c) k xs) (o : k ≤ 5000000000000) (n : b.size ≤ 1000000) : Calls Tryz.prog 97 #[.slice A k c,.string b] w (AppPost w A k c xs (Dh b.toList)):=by
 refine Bw Tryz.func97 Tryz.ntmps97 fun _ f=>?_;refine pr f fun _ f=>?_;refine C.sk fun _ h=>?_;(iterate 2 refine L.s f fun _ f=>?_);refine L.va f (E.lenS f U9 rfl) fun _ f=>?_;refine L.cl f (Bm f Tryz.call98) (Uu A k c xs _ _ O (by omega)) ?_;rintro e p ⟨i,l,rfl,a⟩;have q:=a.kept;refine ⟨_,rfl,fun _ f=>?_⟩;have g:=q.size;clear q;refine L.s f fun _ f=>?_;refine L.appendS f Aa (by decide) U33 U9 Z9 rfl rfl a.own (by rw [B1]; omega) fun _ r j m d f=>?_;refine re f h ?_;exact ⟨_,_,x4c,by rw [W0,x4b]; exact a.seq d⟩
theorem W1 (p q : Pk) (s t : Ad) (w : World) (x : p.In w s) (IQ : q.In w t) : Calls Tryz.prog 106 #[.agg #[.string p.wt,.slice s.wa p.wp.length s.wc,.int .i64 p.wq,.bool p.wr],.agg #[.string q.wt,.slice t.wa q.wp.length t.wc,.int .i64 q.wq,.bool q.wr]] w (fun e w'=>Kept [] w w' ∧ e = .returned (.bool (Hd p q))):=by
 have c : Kept [] w w:=Kept.refl [] w;refine Bw Tryz.func106 Tryz.ntmps106 fun _ f=>?_;refine C.sk fun _ k=>?_;refine L.box f Aa (by decide) rfl rfl fun _ w1 g0 N f=>?_;obtain ⟨d,g,h,n,r⟩:=N.al;have l:=c.lo h;replace c:=c.z g;clear N g;refine L.box f Aa (by decide) rfl rfl fun _ w2 g1 N f=>?_;obtain ⟨v,g,i,o,u⟩:=N.al;have m:=c.lo i;have j : g0 ≠ g1:=by have:=d.lt; omega
 replace c:=c.z g;replace d:=d.z g;clear N g;refine pe f k fun _ f=>?_;refine C.sk fun _ k=>?_;(iterate 6 refine L.s f fun _ f=>?_);refine f.sD 10 rfl (fun h0 f=>?_) (fun h0 f=>?_)
 ·refine L.s f fun _ a=>?_;refine L.s a fun _ a=>?_;refine L.va a (E.toStr a rfl U33 U5 U9 (x.wp.kept c)) (hw:=a.y) fun _ a=>?_;(iterate 2 refine L.s a fun _ a=>?_);refine L.va a (E.toStr a rfl U33 U5 U9 (IQ.wp.kept c)) (hw:=a.y) fun _ a=>?_;(iterate 3 refine L.s a fun _ a=>?_);refine a.sD 19 rfl (fun h1 a=>?_) (fun h1 a=>?_)
  ·refine L.s a fun _ b=>?_;(iterate 6 refine L.s b fun _ b=>?_);refine b.sD 26 rfl (fun h2 b=>?_) (fun h2 b=>?_)
   ·refine re b k ?_
    try simp only [Ig] at *
    exact ⟨c,by simp [Hd, *]⟩
   refine L.rn b fun _ b=>?_;have b:=b.sub (sv 4 (.bool false) sn);refine wn k ?_;refine Gc b ?_
   try simp only [Ig] at *
   exact ⟨c,by simp [Hd, *]⟩
  refine L.rn a fun _ a=>?_;have a:=a.sub (sv 4 (.bool false) sn);refine wn k ?_;refine Gc a ?_
  try simp only [Ig] at *
  exact ⟨c,by simp [Hd, *]⟩
 refine L.rn f fun _ f=>?_;have f:=f.sub (sv 4 (.bool false) sn);refine wn k ?_;refine Gc f ?_
 try simp only [Ig] at *
 exact ⟨c,by simp [Hd, *]⟩
end Go.Proofs.YtkdeedhjkjffpaaGreat
namespace Go.Hub
open Go.Lib Go.RowKit
def ac (l : List UInt8) (m : Nat) : Nat → Nat
  | 0=>0
  | 1=>(l.getD 0 0).toNat % m
  | k + 2=>ac l m (k + 1) * 64 + (l.getD (k + 1) 0).toNat % 64
theorem W2 (l : List UInt8) (m : Nat) : ac l m 1 = (l.getD 0 0).toNat % m:=rfl
theorem Tn (l : List UInt8) (m k : Nat) (h : 1 ≤ k) : ac l m (k + 1) = ac l m k * 64 + (l.getD k 0).toNat % 64:=by
  obtain ⟨j,rfl⟩ : ∃ j,k = j + 1:=⟨k - 1,by omega⟩
  rfl
def Yo (b0 n m least : Nat) : Prop:=(192 ≤ b0 ∧ b0 < 224 ∧ n = 2 ∧ m = 32 ∧ least = 128) ∨ (224 ≤ b0 ∧ b0 < 240 ∧ n = 3 ∧ m = 16 ∧ least = 2048) ∨ (240 ≤ b0 ∧ b0 < 248 ∧ n = 4 ∧ m = 8 ∧ least = 65536)
theorem x4e {l : List UInt8} {n m a : Nat} (h : Yo (l.getD 0 0).toNat n m a) (k : Nat) (g : 1 ≤ k) (i : k ≤ n) : ac l m k ≤ 2097151 ∧ (k < n → ac l m k ≤ 32767):=by
  have b : ac l m 1 = (l.getD 0 0).toNat % m:=rfl;have c : ac l m 2 = ac l m 1 * 64 + (l.getD 1 0).toNat % 64:=rfl;have d : ac l m 3 = ac l m 2 * 64 + (l.getD 2 0).toNat % 64:=rfl;have f : ac l m 4 = ac l m 3 * 64 + (l.getD 3 0).toNat % 64:=rfl
  rcases h with ⟨_,_,rfl,rfl,_⟩ | ⟨_,_,rfl,rfl,_⟩ | ⟨_,_,rfl,rfl,_⟩
  · rcases (show k = 1 ∨ k = 2 by omega) with rfl | rfl <;> omega
  · rcases (show k = 1 ∨ k = 2 ∨ k = 3 by omega) with rfl | rfl | rfl <;> omega
  rcases (show k = 1 ∨ k = 2 ∨ k = 3 ∨ k = 4 by omega) with rfl | rfl | rfl | rfl <;> omega
def H7 (l : List UInt8) : Value:=.tuple #[.int .i32 ((if Ur l then 0 else (decodeL l).1 : Nat) : Int),.int .i64 ((decodeL l).2 : Int),.bool (!Ur l)]
theorem Ff {l : List UInt8} (h : decodeL l = (65533,1)) : H7 l = .tuple #[.int .i32 0,.int .i64 1,.bool false]:=by
  unfold H7 Ur; rw [h]; rfl
theorem Kg {l : List UInt8} {r n : Nat} (h : decodeL l = (r,n)) (d : ¬ (r = 65533 ∧ n = 1)) : H7 l = .tuple #[.int .i32 r,.int .i64 n,.bool true]:=by
  have c : Ur l = false:=by
    unfold Ur;rw [h]
    simp
    intro a b;exact d ⟨a,b⟩
  unfold H7;rw [c,h]
  rfl
theorem x0x {l : List UInt8} (h : (l.getD 0 0).toNat < 128) : decodeL l = ((l.getD 0 0).toNat,1):=by
  rw [decodeL_N]; unfold decodeN; rw [if_pos h]
theorem x4f {l : List UInt8} (a : 128 ≤ (l.getD 0 0).toNat) (b : (l.getD 0 0).toNat < 192 ∨ 248 ≤ (l.getD 0 0).toNat) : decodeL l = (65533,1):=by
  have:=(l.getD 0 0).toNat_lt;rw [decodeL_N]; unfold decodeN;rw [if_neg (by omega),if_neg (by omega),if_neg (by omega),if_neg (by omega)]
theorem x0y {l : List UInt8} {n m a : Nat} (h : Yo (l.getD 0 0).toNat n m a) (b : l.length < n) : decodeL l = (65533,1):=by
  rw [decodeL_N]; unfold decodeN
  rcases h with ⟨_,_,rfl,rfl,_⟩ | ⟨_,_,rfl,rfl,_⟩ | ⟨_,_,rfl,rfl,_⟩
  · rw [if_neg (by omega),if_neg (by omega),if_neg (by omega),if_neg (by omega)]
  · rw [if_neg (by omega),if_neg (by omega),if_neg (by omega),if_neg (by omega)]
  rw [if_neg (by omega),if_neg (by omega),if_neg (by omega),if_neg (by omega)]
theorem Jr {l : List UInt8} {n m a k : Nat} (h : Yo (l.getD 0 0).toNat n m a) (b : 1 ≤ k) (c : k < n) (d : (l.getD k 0).toNat / 64 ≠ 2) : decodeL l = (65533,1):=by
  rw [decodeL_N]; unfold decodeN
  rcases h with ⟨_,_,rfl,rfl,_⟩ | ⟨_,_,rfl,rfl,_⟩ | ⟨_,_,rfl,rfl,_⟩
  · rcases (show k = 1 by omega) with rfl
    rw [if_neg (by omega),if_neg (by omega),if_neg (by omega),if_neg (by omega)]
  · rcases (show k = 1 ∨ k = 2 by omega) with rfl | rfl <;> rw [if_neg (by omega),if_neg (by omega),if_neg (by omega),if_neg (by omega)]
  rcases (show k = 1 ∨ k = 2 ∨ k = 3 by omega) with rfl | rfl | rfl <;> rw [if_neg (by omega),if_neg (by omega),if_neg (by omega),if_neg (by omega)]
theorem Mi {l : List UInt8} {n m a : Nat} (h : Yo (l.getD 0 0).toNat n m a) (p : n ≤ l.length) (d : ∀ k, 1 ≤ k → k < n → (l.getD k 0).toNat / 64 = 2) :
    decodeL l = if a ≤ ac l m n ∧ ac l m n ≤ 1114111 ∧ ¬ (55296 ≤ ac l m n ∧ ac l m n < 57344) then (ac l m n,n) else (65533,1):=by
  have g : ac l m 1 = (l.getD 0 0).toNat % m:=rfl;have i : ac l m 2 = ac l m 1 * 64 + (l.getD 1 0).toNat % 64:=rfl;have j : ac l m 3 = ac l m 2 * 64 + (l.getD 2 0).toNat % 64:=rfl;have o : ac l m 4 = ac l m 3 * 64 + (l.getD 3 0).toNat % 64:=rfl;have b:=d 1 (by omega);have c:=d 2 (by omega);have f:=d 3 (by omega);rw [decodeL_N]; unfold decodeN
  rcases h with ⟨_,_,rfl,rfl,rfl⟩ | ⟨_,_,rfl,rfl,rfl⟩ | ⟨_,_,rfl,rfl,rfl⟩
  · have b := b (by omega)
    rw [if_neg (by omega),if_pos (by omega)]
    split
    · rw [if_pos (by omega)]; exact Prod.ext (by dsimp only; omega) rfl
    rw [if_neg (by omega)]
  · have b := b (by omega)
    have c:=c (by omega);rw [if_neg (by omega),if_neg (by omega),if_pos (by omega)]
    split
    · rw [if_pos (by omega)]; exact Prod.ext (by dsimp only; omega) rfl
    rw [if_neg (by omega)]
  have b:=b (by omega);have c:=c (by omega);have f:=f (by omega);rw [if_neg (by omega),if_neg (by omega),if_neg (by omega),if_pos (by omega)]
  split
  · rw [if_pos (by omega)]; exact Prod.ext (by dsimp only; omega) rfl
  rw [if_neg (by omega)]
theorem y2c : ∀ x : Fin 256,bits .and .u8 (x.val : Int) 31 = ((x.val % 32 : Nat) : Int):=by decide +kernel
theorem y2d : ∀ x : Fin 256,bits .and .u8 (x.val : Int) 15 = ((x.val % 16 : Nat) : Int):=by decide +kernel
theorem y2e : ∀ x : Fin 256,bits .and .u8 (x.val : Int) 7 = ((x.val % 8 : Nat) : Int):=by decide +kernel
theorem x4g : ∀ x : Fin 256,bits .and .u8 (x.val : Int) 63 = ((x.val % 64 : Nat) : Int):=by decide +kernel
theorem x4h : ∀ x : Fin 256,bits .and .u8 (x.val : Int) 192 = ((x.val / 64 * 64 : Nat) : Int):=by decide +kernel
theorem x0z (n : Int) (a : 0 ≤ n) (b : n < 2 ^ 31) : IntKind.i32.wrap n = n:=by rw [IntKind.wrap_i32]; omega
theorem W3 (i : Nat) (a b : Int) (f : 0 ≤ a) (c : a < 2 ^ i) (g : 0 ≤ b) (d : b % 2 ^ i = 0) (h : b < 2 ^ 30) (hi : a < 2 ^ 30) : bits .or .i32 b a = b + a:=
  bits_join .i32 31 (by decide) x0z i b a g d (by omega) f c (by omega)
end Go.Hub
namespace Go.Proofs.YtkdeedhjkjffpaaGreat
open Go.RowKit Go.Hub Go.Lib
theorem getD_some {l : List UInt8} {k : Nat} (h : k < l.length) : l[k]? = some (l.getD k 0):=by simp [List.getD,h]
section
variable (b off cap : Nat) (l : List UInt8) (w : World) (hne : 0 < l.length) (hbig : l.length ≤ maxLen)
  (hc : ∀ j,j < l.length → w.cell? ⟨b,off + j,none⟩ = some (.int .u8 ((l.getD j 0).toNat : Int)))
include hne hc hbig in
theorem W4 (h : (l.getD 0 0).toNat < 128) : Calls Tryz.prog 105 #[.slice (some ⟨b,off,none⟩) l.length cap] w fun e w'=>e = .returned (H7 l) ∧ w' = w:=by
  have h0:=hc 0 hne;rw [Nat.add_zero] at h0;have hlt:=(l.getD 0 0).toNat_lt;have hl2 : (0 : Int) < (l.length : Int):=by omega
  have HS:=Fj (Kg (x0x h) (by omega));obtain ⟨x,hx⟩ : ∃ x,x = (l.getD 0 0).toNat:=⟨_,rfl⟩;rw [← hx] at h0 h hlt HS;have hi : (x : Int) < 128:=by omega
  clear hc hx
  go_enter Tryz.func105,Tryz.ntmps105
  go_wp2
  go_ret3
  exact ⟨by rw [HS.out]; rfl,rfl⟩
include hne hc hbig in
theorem Sd (h1 : 128 ≤ (l.getD 0 0).toNat) (h2 : (l.getD 0 0).toNat < 192 ∨ 248 ≤ (l.getD 0 0).toNat) : Calls Tryz.prog 105 #[.slice (some ⟨b,off,none⟩) l.length cap] w fun e w'=>e = .returned (H7 l) ∧ w' = w:=by
  have h0:=hc 0 hne;rw [Nat.add_zero] at h0;have hlt:=(l.getD 0 0).toNat_lt;have hl2 : (0 : Int) < (l.length : Int):=by omega
  have HS:=Fj (Ff (x4f h1 h2));obtain ⟨x,hx⟩ : ∃ x,x = (l.getD 0 0).toNat:=⟨_,rfl⟩;rw [← hx] at h0 h1 h2 hlt;clear hc hx
  rcases h2 with h2 | h2
  · have hi : ¬ (x : Int) < 128 := by omega
    have hi2 : (x : Int) < 192:=by omega
    go_enter Tryz.func105,Tryz.ntmps105
    go_wp2
    go_ret3
    exact ⟨by rw [HS.out]; rfl,rfl⟩
  have hi : ¬ (x : Int) < 128:=by omega
  have hi2 : (248 : Int) ≤ x:=by omega
  go_enter Tryz.func105,Tryz.ntmps105
  go_wp2
  go_ret3
  exact ⟨by rw [HS.out]; rfl,rfl⟩
include hne hc hbig in
theorem Js (n m least : Nat) (h : Yo (l.getD 0 0).toNat n m least) (hl : l.length < n) : Calls Tryz.prog 105 #[.slice (some ⟨b,off,none⟩) l.length cap] w fun e w'=>e = .returned (H7 l) ∧ w' = w:=by
  have h0:=hc 0 hne;rw [Nat.add_zero] at h0;have hlt:=(l.getD 0 0).toNat_lt;have hl2 : (0 : Int) < (l.length : Int):=by omega
  have HS:=Fj (Ff (x0y h hl));obtain ⟨x,hx⟩ : ∃ x,x = (l.getD 0 0).toNat:=⟨_,rfl⟩;rw [← hx] at h0 h hlt;have hm5:=y2c ⟨x,hlt⟩;have hm4:=y2d ⟨x,hlt⟩;have hm3:=y2e ⟨x,hlt⟩;clear hc hx
  rcases h with ⟨a1,a2,rfl,rfl,rfl⟩ | ⟨a1,a2,rfl,rfl,rfl⟩ | ⟨a1,a2,rfl,rfl,rfl⟩
  all_goals
    have hi : ¬ (x : Int) < 128:=by omega
    have hi2 : (192 : Int) ≤ x:=by omega
    have hi3 : (l.length : Int) < 4:=by omega
  · have hi4 : (x : Int) < 224 := by omega
    have hi5 : (l.length : Int) < 2:=by omega
    go_enter Tryz.func105,Tryz.ntmps105
    go_wp2
    go_ret3
    exact ⟨by rw [HS.out]; rfl,rfl⟩
  · have hi4 : (224 : Int) ≤ x := by omega
    have hi6 : (x : Int) < 240:=by omega
    have hi5 : (l.length : Int) < 3:=by omega
    go_enter Tryz.func105,Tryz.ntmps105
    go_wp2
    go_ret3
    exact ⟨by rw [HS.out]; rfl,rfl⟩
  have hi4 : (240 : Int) ≤ x:=by omega
  have hi6 : (x : Int) < 248:=by omega
  go_enter Tryz.func105,Tryz.ntmps105
  go_wp2
  go_ret3
  exact ⟨by rw [HS.out]; rfl,rfl⟩
end
end Go.Proofs.YtkdeedhjkjffpaaGreat
