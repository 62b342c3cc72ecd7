/- Merged by program (shrink.py): contracts and plain laws that the claim's statement uses, part 1. -/
import Derived.ArgAppend
import Derived.BigQuiet
import Derived.Deep.AppendLies
import Derived.Deep.Draws
import Derived.Deep.Fields
import Derived.Deep.LoopGhost
import Derived.Deep.MidRow
import Derived.Deep.QuietTactic
import Derived.Deep.RegionHeld
import Derived.Deep.RegionHeld3
import Derived.Deep.RegionLaw
import Derived.Deep.Slices
import Derived.Deep.Upon
import Derived.Great.BuildSlice
import Derived.IntWalk
import Derived.Laws.BytesArg
import Derived.Laws.Cover4
import Derived.Laws.IdiomCopy
import Derived.Laws.IdiomStrings
import Derived.Laws.RangeAny
import Derived.Laws.ResultCell
import Derived.Lib.AppendStr
import Derived.Lib.AppendZerosOnto
import Derived.Lib.LaidU8T
import Derived.Lib.MapLaws
import Derived.Lib.OthersKept
import Derived.Lib.Overlaps
import Derived.Maps.AppendAt
import Derived.Maps.OwnSet
import Derived.OpenShut
import Derived.OwnWalk
import Derived.ProofKit
import Derived.Shelf.Spec.DecodeRune
import Derived.Shelf.Spec.NilArms
import Derived.Shelf.Strings.Split
import Derived.Shelf.Vars
import Derived.SizedLaws
import Derived.StillTailTactics
import Derived.Test.YtekmhcdgmgbheaaGreatDoorProg
import Derived.Test.YtekmhcdgmgbheaaGreatDoorRows
import Derived.WalkKit
import Derived.WalkLawsBesides
import Derived.WalkSpells
set_option linter.all false
set_option maxRecDepth 100000
set_option maxHeartbeats 8000000

namespace Go.Hub
open Go.RowKit Go.Maps Go.ChangeMaps Go.MapKept
theorem hid {p : Prop} (h : p) : Hid p:=h
structure Kept (L : List Nat) (w w' : World) : Prop where
  os : w'.os = w.os
  tape : w'.tape = w.tape
  output : w'.output = w.output
  size : w.heap.size ≤ w'.heap.size
  block : ∀ k,k < w.heap.size → k ∉ L → w'.heap[k]? = w.heap[k]?
section
variable {L L' : List Nat} {w w' w'' : World}
theorem Kept.refl (L : List Nat) (w : World) : Kept L w w:=⟨rfl,rfl,rfl,Nat.le_refl _,fun _ _ _=>rfl⟩
theorem Kept.trans (h : Kept L w w') (k : Kept L' w' w'') (hs : ∀ x ∈ L',x < w.heap.size → x ∈ L) : Kept L w w'':=
  ⟨k.os.trans h.os, k.tape.trans h.tape, k.output.trans h.output, Nat.le_trans h.size k.size,
   fun i hi hn=>(k.block i (Nat.lt_of_lt_of_le hi h.size) (fun hx=>hn (hs i hx hi))).trans (h.block i hi hn)⟩
theorem Kept.mono (h : Kept L w w') (hs : ∀ x ∈ L,x < w.heap.size → x ∈ L') : Kept L' w w':=
  ⟨h.os,h.tape,h.output,h.size,fun i hi hn=>h.block i hi (fun hx=>hn (hs i hx hi))⟩
theorem Kept.drew (h : Kept L w w') : Kept L w w'.drew:=⟨h.os,h.tape,h.output,h.size,h.block⟩
theorem Kept.drewN (h : Kept L w w') (n : Nat) : Kept L w (w'.drewN n):=⟨h.os,h.tape,h.output,h.size,h.block⟩
theorem Kept.alloc (h : Kept L w w') (o : Obj) : Kept L w (w'.alloc o):=
  h.trans (L':=[]) ⟨rfl,rfl,rfl,by simp,fun k hk _=>Below.heap_alloc _ _ _ hk⟩ (by simp)
theorem Kept.setCell (h : Kept L w w') {p : Addr} (hp : p.block < w.heap.size → p.block ∈ L) (u : Value) : Kept L w (w'.setCell p u):=
  h.trans (L':=[p.block]) ⟨rfl,rfl,rfl,by simp [World.setCell],fun k _ hn=>Below.heap_setCell _ _ _ _ (by simpa using hn)⟩ (by simpa using hp)
theorem Kept.below (h : Kept L w w') {B : Nat} (hB : ∀ x ∈ L,B ≤ x) (hs : B ≤ w.heap.size) : Below B w w':=
  ⟨h.os,h.tape,h.output,h.size,fun k hk=>h.block k (by omega) (fun hx=>by have:=hB k hx; omega)⟩
theorem Kept.of_below (h : Below w.heap.size w w') (L : List Nat) : Kept L w w':=⟨h.os,h.tape,h.output,h.size,fun k hk _=>h.block k hk⟩
theorem Kept.cell (h : Kept L w w') {p : Addr} (hp : p.block < w.heap.size) (hn : p.block ∉ L) : w'.cell? p = w.cell? p:=World.cell?_of_block (w:=w) (h.block p.block hp hn)
end
def Blk (w : World) (g : Nat) (t : TypeId) (cs : Array Value) : Prop:=w.heap[g]? = some (.cells cs t (0,0))
section
variable {w w' : World} {g : Nat} {t : TypeId} {cs : Array Value}
theorem Blk.lt (h : Blk w g t cs) : g < w.heap.size:=by
  rcases Nat.lt_or_ge g w.heap.size with hlt | hge
  · exact hlt
  · unfold Blk at h; rw [Array.getElem?_eq_none hge] at h; cases h
theorem Blk.cell (h : Blk w g t cs) (i : Nat) : w.cell? ⟨g,i,none⟩ = cs[i]?:=cell_of_row w g i cs t (0,0) h
theorem Blk.cell_ (h : Blk w g t cs) {i : Nat} {v : Value} (hv : cs[i]? = some v) : w.cell? ⟨g,i,none⟩ = some v:=(h.cell i).trans hv
theorem Blk.frozen (h : Blk w g t cs) (i : Nat) : w.frozen? ⟨g,i,none⟩ = false:=by
  unfold Blk at h;simp [World.frozen?,h]
theorem Blk.new (w : World) (t : TypeId) (cs : Array Value) : Blk (w.alloc (.cells cs t)) w.heap.size t cs:=heap_alloc_new w _
theorem Blk.set_ (h : Blk w g t cs) (i : Nat) (u : Value) : Blk (w.setCell ⟨g,i,none⟩ u) g t (cs.setIfInBounds i u):=by
  unfold Blk at h ⊢;simp [World.setCell,Array.getElem?_modify,h]
theorem Blk.kept {L : List Nat} (h : Blk w g t cs) (hk : Kept L w w') (hg : g ∉ L) : Blk w' g t cs:=(hk.block g h.lt hg).trans h
end
theorem add_none (b off i : Nat) : (Addr.mk b off none).add i = ⟨b,off + i,none⟩:=by
  unfold Addr.add
  split
  · rename_i h; simp_all
  · rfl
theorem bd_u8 {n : Int} (h : (Lit.int .u8 n).wf = true) : 0 ≤ n ∧ n ≤ 255:=by simpa [Lit.wf,IntKind.min,IntKind.max,IntKind.signed,IntKind.bits] using h
end Go.Hub
namespace Go.Hub
open Go.RowKit
def Rds (w : World) (B size : Nat) (A : Option Addr) (n : Nat) (xs : List Value) : Prop:=
  xs.length = n * size ∧ (0 < n → ∃ b off,A = some ⟨b,off,none⟩ ∧ b < B ∧ ∀ j u,xs[j]? = some u → w.cell? ⟨b,off + j,none⟩ = some u)
section
variable {w w' : World} {B B' size n : Nat} {A : Option Addr} {xs : List Value}
theorem Rds.nil (w : World) (B size : Nat) (A : Option Addr) : Rds w B size A 0 []:=⟨by simp,fun h=>absurd h (by omega)⟩
theorem grown_kept {row : Option Nat} (h : w.grownBy w' row) : Kept row.toList w w':=
  ⟨h.os,h.tape,h.output,h.size,fun k hk hn=>h.block k hk (fun e=>hn (by rw [← e]; simp))⟩
end
section
variable {P : Program} (w : World)
theorem run_append_none (base : Nat) (t ty e : TypeId) (i : TypeInfo) (size : Nat) (ht : P.underlying t = some (.slice e)) (hi : P.info? e = some i)
    (v : Value) (n : Nat) (xs : List Value) (hown : w.ownsRow base e size v n xs) (c : Nat) : (Builtin.append_ #[t,t] ty #[v,.slice none 0 c]).run P w = .ok v w:=by
  rcases hown.2 with ⟨rfl,rfl⟩ | ⟨g,cap,cur,rfl,_,_,hnc,_⟩
  · simp [Builtin.append_,run_underlying ht,sizeOf,typeInfo,hi,Builtin.lenOf,Builtin.firstCells]
  · simp [Builtin.append_,run_underlying ht,sizeOf,typeInfo,hi,Builtin.lenOf,Builtin.firstCells,hnc,storeCells]
theorem run_append_rds (base : Nat) (t ty e : TypeId) (i : TypeInfo) (z : Value) (size bytes : Nat) (ht : P.underlying t = some (.slice e)) (hi : P.info? e = some i) (hz : i.zero = some z)
    (hsize : i.size = size) (hby : i.bytes = bytes) (hzs : z.cells.size = size) (hsz : 0 < size)
    (v : Value) (n : Nat) (xs : List Value) (hown : w.ownsRow base e size v n xs)
    (B : Nat) (A : Option Addr) (m c : Nat) (news : List Value) (hr : Rds w B size A m news) (hA : m = 0 → A = none ∨ ∃ a,A = some a) (h1 : ∀ u ∈ news,u.oneCell' = true)
    (h63 : n + m ≤ maxLen) (hbytes : (n + m) * bytes ≤ 140737488355328) (hbase : base ≤ w.heap.size) :
    ∃ v' w', (Builtin.append_ #[t, t] ty #[v, .slice A m c]).run P w = .ok v' w' ∧ w'.ownsRow base e size v' (n + m) (xs ++ news) ∧ w.grownBy w' v.ownBlock ∧
      (v'.ownBlock = v.ownBlock ∨ v'.ownBlock = some w.heap.size):=by
  rcases A with _ | ad
  · have hm : m = 0:=by
      rcases Nat.eq_zero_or_pos m with h0 | h0
      · exact h0
      · obtain ⟨b, off, h, _⟩ := hr.2 h0
        cases h
    subst hm;have hn : news = []:=List.eq_nil_of_length_eq_zero (by simpa using hr.1);subst hn;exact ⟨v,w,run_append_none w base t ty e i size ht hi v n xs hown c,by simpa using hown,World.grownBy.refl w _,.inl rfl⟩
  · have hcells : ∀ j u,news[j]? = some u → w.cell? (ad.add j) = some u:=by
      intro j u hu
      rcases Nat.eq_zero_or_pos m with h0 | h0
      · subst h0
        have hn : news = []:=List.eq_nil_of_length_eq_zero (by simpa using hr.1);subst hn;simp at hu
      · obtain ⟨b, off, h, _, hc⟩ := hr.2 h0
        injection h with h
        subst h;rw [add_none];exact hc j u hu
    obtain ⟨v',w',hrun,h2,h3,_,h5⟩:=run_append_own_at (P:=P) w base t ty e i z size bytes ht hi hz hsize hby hzs hsz v n xs hown ad m c news hr.1 hcells h1 h63 hbytes hbase;exact ⟨v',w',hrun,h2,h3,h5⟩
end
end Go.Hub
namespace Go.Hub
open Go.RowKit
theorem setCells_block (g : Nat) : ∀ (vs : List Value) (o : Nat) (w : World) (cur : Array Value) (e : TypeId) (f : Nat × Nat), w.heap[g]? = some (.cells cur e f) →
    ∃ cur' : Array Value,(w.setCells g o vs).heap[g]? = some (.cells cur' e f) ∧ cur'.size = cur.size ∧ (∀ j,j < o → cur'[j]? = cur[j]?) ∧ (∀ j u,vs[j]? = some u → o + j < cur.size → cur'[o + j]? = some u)
  | [],o,w,cur,e,f,h=>⟨cur,h,rfl,fun _ _=>rfl,fun j u hu=>by simp at hu⟩
  | v :: r,o,w,cur,e,f,h=>by
    have h1 : (w.setCell ⟨g,o,none⟩ v).heap[g]? = some (.cells (cur.setIfInBounds o v) e f):=by
      simp [World.setCell,Array.getElem?_modify,h]
    obtain ⟨cur',a1,a2,a3,a4⟩:=setCells_block g r (o + 1) (w.setCell ⟨g,o,none⟩ v) _ e f h1;refine ⟨cur',a1,by rw [a2]; simp,fun j hj=>?_,fun j u hu hlt=>?_⟩
    · rw [a3 j (by omega), Array.getElem?_setIfInBounds]
      rw [if_neg (by omega)]
    · match j,hu with
      | 0,hu=>
        simp at hu;subst hu;rw [Nat.add_zero] at hlt ⊢;rw [a3 o (by omega),Array.getElem?_setIfInBounds,if_pos rfl,if_pos hlt]
      | j + 1,hu=>
        have:=a4 j u (by simpa using hu) (by simp; omega);rw [show o + (j + 1) = o + 1 + j from by omega];exact this
theorem setCells_other (g : Nat) : ∀ (vs : List Value) (o : Nat) (w : World) (k : Nat), k ≠ g → (w.setCells g o vs).heap[k]? = w.heap[k]?
  | [],_,_,_,_=>rfl
  | v :: r,o,w,k,h=>(setCells_other g r (o + 1) (w.setCell ⟨g,o,none⟩ v) k h).trans (Below.heap_setCell _ _ _ _ h)
theorem setCells_facts (g : Nat) : ∀ (vs : List Value) (o : Nat) (w : World), (w.setCells g o vs).os = w.os ∧ (w.setCells g o vs).tape = w.tape ∧ (w.setCells g o vs).output = w.output ∧ (w.setCells g o vs).heap.size = w.heap.size
  | [],_,_=>⟨rfl,rfl,rfl,rfl⟩
  | v :: r,o,w=>by
    obtain ⟨a,b,c,d⟩:=setCells_facts g r (o + 1) (w.setCell ⟨g,o,none⟩ v)
    exact ⟨a,b,c,by rw [World.setCells,d]; simp [World.setCell]⟩
def Own (w : World) (e : TypeId) (size : Nat) (v : Value) (n : Nat) (xs : List Value) : Prop:=
  xs.length = n * size ∧ ((v = .slice none 0 0 ∧ n = 0) ∨
    ∃ g off cap cur,v = .slice (some ⟨g,off,none⟩) n cap ∧ w.heap[g]? = some (.cells cur e (0,0)) ∧ n ≤ cap ∧ cap ≤ maxLen ∧ off + cap * size ≤ cur.size ∧ ∀ j u,xs[j]? = some u → cur[off + j]? = some u)
section
variable {w w' : World} {e : TypeId} {size : Nat} {v : Value} {n : Nat} {xs : List Value}
theorem Own.nil (w : World) (e : TypeId) (size : Nat) : Own w e size (.slice none 0 0) 0 []:=⟨by simp,.inl ⟨rfl,rfl⟩⟩
theorem Own.of_row {base : Nat} (h : w.ownsRow base e size v n xs) : Own w e size v n xs:=by
  refine ⟨h.1,?_⟩
  rcases h.2 with hn | ⟨g,cap,cur,hv,_,hg,hnc,hcm,hcs,ht⟩
  · exact .inl hn
  · refine .inr ⟨g, 0, cap, cur, hv, hg, hnc, hcm, by omega, fun j u hu => ?_⟩
    rw [← ht] at hu;rw [Nat.zero_add]
    have hj : j < n * size:=by
      rcases Nat.lt_or_ge j (n * size) with hj | hj
      · exact hj
      · rw [List.getElem?_take,if_neg (by omega)] at hu; cases hu
    rw [List.getElem?_take,if_pos hj] at hu
    simpa using hu
theorem Own.form (h : Own w e size v n xs) : ∃ A c,v = .slice A n c ∧ n ≤ c ∧ c ≤ maxLen:=by
  rcases h.2 with ⟨rfl,rfl⟩ | ⟨g,off,cap,cur,rfl,_,hn,hc,_⟩
  · exact ⟨none,0,rfl,Nat.le_refl _,by simp [maxLen]⟩
  · exact ⟨_,_,rfl,hn,hc⟩
theorem Own.blk (h : Own w e size v n xs) : ∀ k,v.ownBlock = some k → k < w.heap.size ∧ ∃ cs,w.heap[k]? = some (.cells cs e (0,0)):=by
  intro k hk
  rcases h.2 with ⟨rfl,rfl⟩ | ⟨g,off,cap,cur,rfl,hg,_⟩
  · simp [Value.ownBlock] at hk
  · simp [Value.ownBlock] at hk
    subst hk;exact ⟨(Array.getElem?_eq_some_iff.1 hg).1,cur,hg⟩
theorem Own.of_eq (h : Own w e size v n xs) (hb : ∀ k,v.ownBlock = some k → w'.heap[k]? = w.heap[k]?) : Own w' e size v n xs:=by
  refine ⟨h.1,?_⟩
  rcases h.2 with hn | ⟨g,off,cap,cur,rfl,hg,r⟩
  · exact .inl hn
  · exact .inr ⟨g,off,cap,cur,rfl,(hb g rfl).trans hg,r⟩
theorem Own.kept {L : List Nat} (h : Own w e size v n xs) (hk : Kept L w w') (hn : ∀ k,v.ownBlock = some k → k ∉ L) : Own w' e size v n xs:=
  h.of_eq fun k hb=>hk.block k (h.blk k hb).1 (hn k hb)
theorem Own.cut {A : Option Addr} {c : Nat} (h : Own w e size (.slice A n c) n xs) {k : Nat} (hk : k ≤ n) :
    Own w e size (.slice (if c = k then A else A.map (·.add (k * size))) (n - k) (c - k)) (n - k) (xs.drop (k * size)):=by
  refine ⟨by rw [List.length_drop,h.1,Nat.sub_mul],?_⟩
  rcases h.2 with ⟨hv,h0⟩ | ⟨g,off,cap,cur,hv,hg,hnc,hcm,hcs,hc⟩
  · injection hv with h1 h2 h3
    subst h1 h2 h3;exact .inl ⟨by simp,by omega⟩
  · injection hv with h1 h2 h3
    subst h1 h3
    by_cases hck : c = k
    · rw [if_pos hck]
      refine .inr ⟨g,off,c - k,cur,rfl,hg,by omega,by omega,?_,fun j u hu=>?_⟩
      · rw [Nat.sub_mul]; omega
      · have : xs.drop (k * size) = []:=by
          apply List.drop_eq_nil_of_le
          rw [h.1];exact Nat.mul_le_mul_right _ (by omega)
        rw [this] at hu;simp at hu
    · rw [if_neg hck]
      refine .inr ⟨g,off + k * size,c - k,cur,by simp [add_none],hg,by omega,by omega,?_,fun j u hu=>?_⟩
      · rw [Nat.sub_mul]
        have : k * size ≤ c * size:=Nat.mul_le_mul_right _ (by omega);omega
      · rw [Nat.add_assoc]
        exact hc _ u (by rw [← hu,List.getElem?_drop])
theorem Own.head {A : Option Addr} {c : Nat} (h : Own w e size (.slice A n c) n xs) {k : Nat} (hk : k ≤ n) : Own w e size (.slice A k c) k (xs.take (k * size)):=by
  have hkn : k * size ≤ n * size:=Nat.mul_le_mul_right _ hk;refine ⟨by rw [List.length_take,h.1,Nat.min_eq_left hkn],?_⟩
  rcases h.2 with ⟨hv,h0⟩ | ⟨g,off,cap,cur,hv,hg,hnc,hcm,hcs,hc⟩
  · injection hv with h1 h2 h3
    subst h1 h3
    obtain rfl : k = 0:=by omega
    exact .inl ⟨rfl,rfl⟩
  · injection hv with h1 h2 h3
    subst h1 h3;refine .inr ⟨g,off,c,cur,rfl,hg,by omega,hcm,hcs,fun j u hu=>hc j u ?_⟩
    by_cases hj : j < k * size
    · rwa [List.getElem?_take,if_pos hj] at hu
    · rw [List.getElem?_take,if_neg hj] at hu; cases hu
end
section
variable {P : Program} (w : World)
theorem append_own (t ty e : TypeId) (i : TypeInfo) (z : Value) (size bytes : Nat) (ht : P.underlying t = some (.slice e)) (hi : P.info? e = some i) (hz : i.zero = some z)
    (hsize : i.size = size) (hby : i.bytes = bytes) (hzs : z.cells.size = size) (hsz : 0 < size)
    (v : Value) (n : Nat) (xs : List Value) (hown : Own w e size v n xs)
    (B : Nat) (A : Option Addr) (m c : Nat) (news : List Value) (hr : Rds w B size A m news) (h1 : ∀ u ∈ news,u.oneCell' = true)
    (h63 : n + m ≤ maxLen) (hbytes : (n + m) * bytes ≤ 140737488355328) :
    ∃ v' w', (Builtin.append_ #[t, t] ty #[v, .slice A m c]).run P w = .ok v' w' ∧ Own w' e size v' (n + m) (xs ++ news) ∧ Kept v.ownBlock.toList w w' ∧
      (∀ k,v'.ownBlock = some k → v.ownBlock = some k ∨ w.heap.size ≤ k):=by
  rcases hown.2 with ⟨rfl,rfl⟩ | ⟨g,off,cap,cur,rfl,hg,hnc,hcm,hcs,hc⟩
  · have hx : xs = [] := List.eq_nil_of_length_eq_zero (by simpa using hown.1)
    subst hx;obtain ⟨v',w',hrun,ho,hgr,hat⟩:=run_append_rds (P:=P) w w.heap.size t ty e i z size bytes ht hi hz hsize hby hzs hsz (.slice none 0 0) 0 [] (World.ownsRow_nil _ _ _ _) B A m c news hr (fun _=>by cases A <;> simp) h1 h63 hbytes (Nat.le_refl _);exact ⟨v',w',hrun,Own.of_row ho,grown_kept hgr,fun k hk=>.inr (ho.lt k hk).1⟩
  · rcases A with _ | ad
    · have hm : m = 0:=by
        rcases Nat.eq_zero_or_pos m with h0 | h0
        · exact h0
        · obtain ⟨b, off, h, _⟩ := hr.2 h0
          cases h
      subst hm;have hn : news = []:=List.eq_nil_of_length_eq_zero (by simpa using hr.1);subst hn;refine ⟨_,w,?_,by simpa using hown,Kept.refl _ _,fun k hk=>.inl hk⟩;simp [Builtin.append_,run_underlying ht,sizeOf,typeInfo,hi,Builtin.lenOf,Builtin.firstCells,hnc,storeCells]
    · have hnews : ∀ j u,news[j]? = some u → w.cell? (ad.add j) = some u:=by
        intro j u hu
        rcases Nat.eq_zero_or_pos m with h0 | h0
        · subst h0
          have hn : news = []:=List.eq_nil_of_length_eq_zero (by simpa using hr.1);subst hn;simp at hu
        · obtain ⟨b, off, h, _, hcc⟩ := hr.2 h0
          injection h with h
          subst h;rw [add_none];exact hcc j u hu
      have hlen : news.length = m * size:=hr.1
      by_cases hroom : n + m ≤ cap
      · have hmul : n * size + m * size ≤ cap * size := by rw [← Nat.add_mul]; exact Nat.mul_le_mul_right _ hroom
        subst hsize;have hcell : ∀ j,j < news.length → w.cell? ⟨g,off + n * i.size + j,none⟩ = cur[off + n * i.size + j]?:=fun j hj=>cell_of_row w g _ cur e (0,0) hg
        have hrun := run_append_room_cells (P := P) w t ty e i ht hi g off n cap ad m c news hlen hnews h1 hroom
          (fun j hj=>by rw [hcell j hj,Array.getElem?_eq_getElem (by omega)]; rfl) (fun j hj=>by simp [World.frozen?,hg])
        obtain ⟨cur',a1,a2,a3,a4⟩:=setCells_block g news (off + n * i.size) w cur e (0,0) hg;obtain ⟨b1,b2,b3,b4⟩:=setCells_facts g news (off + n * i.size) w
        refine ⟨_, _, hrun, ⟨by rw [List.length_append, hown.1, hlen, Nat.add_mul], .inr ⟨g, off, cap, cur', rfl, a1, hroom, hcm, by omega, fun j u hu => ?_⟩⟩,
          ⟨b1,b2,b3,by omega,fun k hk hn=>setCells_other g _ _ w k (by simpa [Value.ownBlock] using hn)⟩,fun k hk=>.inl hk⟩
        rcases Nat.lt_or_ge j xs.length with hj | hj
        · rw [List.getElem?_append_left hj] at hu
          rw [a3 _ (by have:=hown.1; omega)];exact hc j u hu
        · rw [List.getElem?_append_right hj] at hu
          have hj2 : j - xs.length < news.length:=by
            rcases Nat.lt_or_ge (j - xs.length) news.length with h | h
            · exact h
            · rw [List.getElem?_eq_none h] at hu; cases hu
          have:=a4 (j - xs.length) u hu (by have:=hown.1; omega);rw [show off + n * i.size + (j - xs.length) = off + j from by have:=hown.1; omega] at this;exact this
      · have holds : ∀ j u,xs[j]? = some u → w.cell? ((⟨g,off,none⟩ : Addr).add j) = some u:=fun j u hu=>by
          rw [add_none,cell_of_row w g (off + j) cur e (0,0) hg];exact hc j u hu
        obtain ⟨v',w',hrun,ho,hgr⟩:=run_append_arg_grows (P:=P) w t ty e i z size bytes ht hi hz hsize hby hzs hsz ⟨g,off,none⟩ n cap xs hown.1 holds ad m c news hlen hnews (by omega) h63 hbytes;exact ⟨v',w',hrun,Own.of_row ho,(grown_kept hgr).mono (by simp),fun k hk=>.inr (ho.lt k hk).1⟩
end
def Typ (w : World) (k : Nat) (E : List TypeId) : Prop:=∃ cs e f,w.heap[k]? = some (.cells cs e f) ∧ e ∈ E
structure Same (E : List TypeId) (B : Nat) (w w' : World) : Prop where
  os : w'.os = w.os
  tape : w'.tape = w.tape
  output : w'.output = w.output
  size : w.heap.size ≤ w'.heap.size
  block : ∀ k,k < w.heap.size → (k < B ∨ Typ w k E) → w'.heap[k]? = w.heap[k]?
section
variable {E : List TypeId} {B : Nat} {w w' w'' : World}
theorem Typ.lt {k : Nat} (h : Typ w k E) : k < w.heap.size:=by obtain ⟨cs,e,f,h,_⟩:=h; exact (Array.getElem?_eq_some_iff.1 h).1
theorem Typ.of_eq {k : Nat} (h : Typ w k E) (hk : w'.heap[k]? = w.heap[k]?) : Typ w' k E:=by obtain ⟨cs,e,f,h,he⟩:=h; exact ⟨cs,e,f,hk.trans h,he⟩
theorem Same.of_below (h : Below w.heap.size w w') : Same E B w w':=⟨h.os,h.tape,h.output,h.size,fun k hk _=>h.block k hk⟩
end
def u8 (x : UInt8) : Value:=.int .u8 (x.toNat : Int)
def Bs (E : List TypeId) (B : Nat) (w : World) (A : Option Addr) (n : Nat) (l : List UInt8) : Prop:=
  l.length = n ∧ (0 < n → ∃ b off,A = some ⟨b,off,none⟩ ∧ b < w.heap.size ∧ (b < B ∨ Typ w b E) ∧ ∀ j x,l[j]? = some x → w.cell? ⟨b,off + j,none⟩ = some (u8 x))
section
variable {E : List TypeId} {B : Nat} {w w' : World} {A : Option Addr} {n : Nat} {l : List UInt8}
theorem Bs.nil (E : List TypeId) (B : Nat) (w : World) (A : Option Addr) : Bs E B w A 0 []:=⟨rfl,fun h=>absurd h (by omega)⟩
theorem Bs.same (h : Bs E B w A n l) (hs : Same E B w w') : Bs E B w' A n l:=
  ⟨h.1,fun hn=>by
    obtain ⟨b,off,e,hb,ht,hc⟩:=h.2 hn
    have e1:=hs.block b hb ht
    refine ⟨b,off,e,Nat.lt_of_lt_of_le hb hs.size,?_,fun j x hx=>(World.cell?_of_block (w:=w) (a:=⟨b,off + j,none⟩) e1).trans (hc j x hx)⟩
    rcases ht with ht | ht
    · exact .inl ht
    · exact .inr (ht.of_eq e1)⟩
theorem Bs.rds (h : Bs E B w A n l) : Rds w w.heap.size 1 A n (l.map u8):=by
  refine ⟨by simp [h.1],fun hn=>?_⟩;obtain ⟨b,off,e,hb,_,hc⟩:=h.2 hn;refine ⟨b,off,e,hb,fun j u hu=>?_⟩;simp only [List.getElem?_map,Option.map_eq_some_iff] at hu;obtain ⟨x,hx,rfl⟩:=hu;exact hc j x hx
theorem Bs.conv {P : Program} {src dst e : TypeId} {c : Nat} (h : Bs E B w A n l) (hs : P.underlying src = some (.slice e)) (he : P.underlying e = some (.int .u8)) (hd : P.underlying dst = some .string) :
    (convert src dst (.slice A n c)).run P w = .ok (.string ⟨l.toArray⟩) w:=by
  have key : ∀ l : List UInt8,strOfNums (l.map fun x=>(x.toNat : Int)) = ⟨l.toArray⟩:=fun l=>by
    unfold strOfNums
    congr 1
    simp [List.map_map,Function.comp_def]
  rcases Nat.eq_zero_or_pos n with h0 | h0
  · subst h0
    have hl : l = []:=List.eq_nil_of_length_eq_zero h.1;subst hl;rw [run_convert_bytes_string w src dst e A 0 c hs he hd]
    cases A with
    | none=>simp [Conv.bytesToString]; rfl
    | some a=>
      rw [run_bytesToString w a 0 c [] (by simp [loadCells,loadCellsFrom])]
      rfl
  · obtain ⟨b, off, rfl, _, _, hc⟩ := h.2 h0
    rw [run_convert_bytes_arg (P:=P) w src e hs he b off n c (l.map fun x=>(x.toNat : Int)) (by simp [h.1]) (fun i hi=>?_) dst hd,key];have hl : i < l.length:=by have:=h.1; omega
    rw [hc i l[i] (by simp [hl])];simp [u8,List.getD_eq_getElem?_getD,hl]
end
def Seq {M : Type} (size : Nat) (rel : List Value → M → Prop) (xs : List Value) (ms : List M) : Prop:=
  xs.length = ms.length * size ∧ ∀ i m,ms[i]? = some m → rel ((xs.drop (i * size)).take size) m
section
variable {M : Type} {size : Nat} {rel rel' : List Value → M → Prop} {xs ys : List Value} {ms ns : List M}
theorem Seq.nil (size : Nat) (rel : List Value → M → Prop) : Seq size rel [] []:=⟨by simp,fun i m h=>by simp at h⟩
theorem Seq.append (h : Seq size rel xs ms) (k : Seq size rel ys ns) : Seq size rel (xs ++ ys) (ms ++ ns):=by
  refine ⟨by rw [List.length_append,List.length_append,h.1,k.1,Nat.add_mul],fun i m hm=>?_⟩
  rcases Nat.lt_or_ge i ms.length with hi | hi
  · rw [List.getElem?_append_left hi] at hm
    have:=h.2 i m hm
    have hle : i * size + size ≤ xs.length:=by
      rw [h.1]
      calc i * size + size = (i + 1) * size := by rw [Nat.add_mul, Nat.one_mul]
        _ ≤ ms.length * size:=Nat.mul_le_mul_right _ hi
    rw [List.drop_append_of_le_length (by omega),List.take_append_of_le_length (by rw [List.length_drop]; omega)];exact this
  · rw [List.getElem?_append_right hi] at hm
    have:=k.2 _ m hm
    have e : (xs ++ ys).drop (i * size) = ys.drop ((i - ms.length) * size):=by
      rw [List.drop_append,List.drop_eq_nil_of_le (by rw [h.1]; exact Nat.mul_le_mul_right _ hi),List.nil_append,h.1,Nat.sub_mul]
    rw [e];exact this
theorem Seq.drop (h : Seq size rel xs ms) (k : Nat) : Seq size rel (xs.drop (k * size)) (ms.drop k):=by
  refine ⟨by rw [List.length_drop,List.length_drop,h.1,Nat.sub_mul],fun i m hm=>?_⟩;rw [List.getElem?_drop] at hm;have:=h.2 _ m hm;rw [List.drop_drop,← Nat.add_mul];exact this
theorem Seq.one {cs : List Value} {m : M} (hl : cs.length = size) (h : rel cs m) : Seq size rel cs [m]:=
  ⟨by simp [hl],fun i n hn=>by
    match i,hn with
    | 0,hn=>
      simp at hn
      subst hn
      simpa [← hl] using h⟩
end
section
variable {w w' : World} {g : Nat} {t : TypeId} {cs : Array Value}
theorem Kept.below0 (h : Kept [] w w') : Below w.heap.size w w':=h.below (by simp) (Nat.le_refl _)
end
section
variable {P : Program} {fn : Func} {R : Ending → World → Prop} {a : Act} {w : World} {p u ty : Nat}
theorem ret_cell (h : fn.results = #[.cell p ty]) {g : Nat} {cs : Array Value} {t : TypeId} (d : TypeDesc) (hp : a.tmps.getD p undef = .pointer (some ⟨g, 0, none⟩)) (hg : Blk w g t cs)
    (hu : P.underlying ty = some d) (hd : (match d with | .struct _ | .array _ _=>true | _=>false) = true) (hi : (P.info? ty).map (·.size) = some cs.size) (hdef : a.defers = [])
    (hR : R (.returned (.agg cs)) w) : bodyPost P fn R .ret a w:=by
  refine bodyPost_ret (v:=.agg cs) ?_ hdef hR;have hl:=run_loadVar_row (P:=P) w g t ty cs (0,0) d hg hu hd hi;have hp' : a.tmps[p]?.getD undef = .pointer (some ⟨g,0,none⟩):=by simpa using hp
  simp [results,h,hp',asAddr,Sem.run_bind,Result.andThen,hl]
theorem ret_cell_tmp (h : fn.results = #[.cell p ty, .tmp u]) {g : Nat} {cs : Array Value} {t : TypeId} {v : Value} (d : TypeDesc) (hp : a.tmps.getD p undef = .pointer (some ⟨g, 0, none⟩)) (hv : a.tmps.getD u undef = v) (hg : Blk w g t cs)
    (hu : P.underlying ty = some d) (hd : (match d with | .struct _ | .array _ _=>true | _=>false) = true) (hi : (P.info? ty).map (·.size) = some cs.size) (hdef : a.defers = [])
    (hR : R (.returned (.tuple #[.agg cs,v])) w) : bodyPost P fn R .ret a w:=by
  refine bodyPost_ret (v:=.tuple #[.agg cs,v]) ?_ hdef hR;have hl:=run_loadVar_row (P:=P) w g t ty cs (0,0) d hg hu hd hi;rw [results_cell_tmp h,hp,hv];simp [asAddr,Result.andThen,hl]
end
end Go.Hub
namespace Go.Hub
open Go.RowKit
abbrev FL:=List (Nat × Value)
def look : FL → Nat → Option Value
  | [],_=>none
  | (i,v) :: r,j=>bif i == j then some v else look r j
def evl (l : FL) : Operand → Option Value
  | .tmp t=>look l t
  | .const v=>some v
  | .global g=>some (.pointer (some ⟨g,0,none⟩))
  | .func f=>some (.func (.func f) #[] #[])
structure Fr (n : Nat) (a : Act) (l : FL) : Prop where
  defers : a.defers = []
  size : a.tmps.size = n
  slot : ∀ i v,look l i = some v → a.tmps[i]? = some v
section
variable {n : Nat} {a : Act} {l : FL}
theorem Fr.ev (f : Fr n a l) {x : Operand} {v : Value} (h : evl l x = some v) : a.eval x = v:=by
  cases x with
  | tmp t=>simp only [Act.eval,Array.getD_eq_getD_getElem?,f.slot t v h,Option.getD_some]
  | const c=>simpa [evl,Act.eval] using h
  | global g=>simpa [evl,Act.eval] using h
  | func g=>simpa [evl,Act.eval] using h
theorem Fr.get (f : Fr n a l) {i : Nat} {v : Value} (h : look l i = some v) : a.tmps.getD i undef = v:=by
  rw [Array.getD_eq_getD_getElem?,f.slot i v h,Option.getD_some]
theorem Fr.put (f : Fr n a l) (d : Nat) (v : Value) (hd : d < n) : Fr n (a.put (some d) v) ((d,v) :: l):=by
  refine ⟨f.defers,by simp [Act.put,f.size],fun i u h=>?_⟩;unfold look at h;simp only [Act.put,Array.getElem?_setIfInBounds]
  by_cases hi : d = i
  · subst hi
    simp at h;subst h;rw [if_pos rfl,if_pos (by rw [f.size]; exact hd)]
  · have hb : (d == i) = false := by simp [hi]
    simp [hb] at h;rw [if_neg hi];exact f.slot i u h
def sub (l : FL) : FL → Prop
  | []=>True
  | p :: r=>look l p.1 = some p.2 ∧ sub l r
theorem sub_look {l l' : FL} (h : sub l l') : ∀ i v,look l' i = some v → look l i = some v:=by
  induction l' with
  | nil=>intro i v h; simp [look] at h
  | cons p r ih=>
    obtain ⟨h1,h2⟩:=h;intro i v hv;unfold look at hv
    by_cases hi : p.1 = i
    · subst hi
      simp at hv;rw [← hv]; exact h1
    · have hb : (p.1 == i) = false := by simp [hi]
      simp [hb] at hv;exact ih h2 i v hv
theorem sub_nil {l : FL} : sub l []:=trivial
theorem sub_cons {l : FL} {i : Nat} {v : Value} {r : FL} (h : look l i = some v) (h' : sub l r) : sub l ((i,v) :: r):=⟨h,h'⟩
theorem Fr.sub {l' : FL} (f : Fr n a l) (h : sub l l') : Fr n a l':=⟨f.defers,f.size,fun i v hv=>f.slot i v (sub_look h i v hv)⟩
theorem Fr.as (f : Fr n a l) {i : Nat} {v v' : Value} (h : look l i = some v) (e : v = v') : Fr n a ((i,v') :: l):=by
  subst e;refine ⟨f.defers,f.size,fun j u hu=>?_⟩;unfold look at hu
  by_cases hi : i = j
  · subst hi
    simp at hu;subst hu;exact f.slot i v h
  · have hb : (i == j) = false := by simp [hi]
    simp [hb] at hu;exact f.slot j u hu
theorem Fr.start (args : Array Value) (n : Nat) (h : args.size ≤ n) : Fr n { tmps:=args ++ Array.replicate (n - args.size) undef,defers:=[] } (args.toList.zipIdx.map fun p=>(p.2,p.1)):=by
  refine ⟨rfl,by simp; omega,fun i v hv=>?_⟩
  have key : ∀ (xs : List Value) (k i : Nat) (v : Value),look ((xs.zipIdx k).map fun p=>(p.2,p.1)) i = some v → k ≤ i ∧ xs[i - k]? = some v:=by
    intro xs
    induction xs with
    | nil=>intro k i v h; simp [look] at h
    | cons x r ih=>
      intro k i v h;simp only [List.zipIdx_cons,List.map_cons,look] at h
      by_cases hi : k = i
      · subst hi
        simp at h;subst h
        simp
      · have hb : (k == i) = false := by simp [hi]
        simp [hb] at h;obtain ⟨h1,h2⟩:=ih (k + 1) i v h;refine ⟨by omega,?_⟩;rw [show i - k = (i - (k + 1)) + 1 from by omega]
        simpa using h2
  obtain ⟨_,h2⟩:=key args.toList 0 i v hv
  have hlt : i < args.size:=by
    rcases Nat.lt_or_ge i args.size with h | h
    · exact h
    · simp [h] at h2
  simp only [Array.getElem?_append_left hlt]
  simpa using h2
end
section
variable {P : Program} {ops : Array Oper} {rest : List Oper} {o : Oper} {a : Act} {w w' : World} {Q : Exit → Act → World → Prop} {n d : Nat} {l : FL} {v : Value}
theorem Fr.yield (f : Fr n a l) {j dj : Nat} {b : Bool} (hj : (ops[j]?).bind (·.dst) = some dj) (hb : look l dj = some (.bool b)) : yielded ops a.tmps j = some b:=by
  unfold yielded;rw [hj];simp [f.slot dj _ hb]
theorem L.val (f : Fr n a l) (hw : Region.wanted o (yielded ops a.tmps) = true) (hd : o.dst = some d) (hn : d < n) (h : (execOp a.eval o).run P w = .ok (.value v) w')
    (hK : ∀ a',Fr n a' ((d,v) :: l) → wpList P ops Q rest a' w') : wpList P ops Q (o :: rest) a w:=
  wpList_step fun K hK'=>by
    rw [if_pos hw]
    unfold Oper.wp
    rw [h]
    show K (a.put o.dst v) w'
    rw [hd]
    exact hK' _ _ (hK _ (f.put d v hn))
theorem L.act (f : Fr n a l) (hw : Region.wanted o (yielded ops a.tmps) = true) (hd : o.dst = none) (h : (execOp a.eval o).run P w = .ok .skip w')
    (hK : ∀ a',Fr n a' l → wpList P ops Q rest a' w') : wpList P ops Q (o :: rest) a w:=
  wpList_step fun K hK'=>by
    rw [if_pos hw]
    unfold Oper.wp
    rw [h]
    show K (a.put o.dst undef) w'
    rw [hd]
    exact hK' _ _ (hK _ f)
theorem L.drop (f : Fr n a l) (hw : Region.wanted o (yielded ops a.tmps) = true) (hd : o.dst = none) (h : (execOp a.eval o).run P w = .ok (.value v) w')
    (hK : ∀ a',Fr n a' l → wpList P ops Q rest a' w') : wpList P ops Q (o :: rest) a w:=
  wpList_step fun K hK'=>by
    rw [if_pos hw]
    unfold Oper.wp
    rw [h]
    show K (a.put o.dst v) w'
    rw [hd]
    exact hK' _ _ (hK _ f)
theorem L.skip (f : Fr n a l) (hw : Region.wanted o (yielded ops a.tmps) = false) (hd : o.dst = some d) (hn : d < n)
    (hK : ∀ a',Fr n a' ((d,undef) :: l) → wpList P ops Q rest a' w) : wpList P ops Q (o :: rest) a w:=
  wpList_step fun K hK'=>by
    rw [if_neg (by rw [hw]; simp),hd]
    exact hK' _ _ (hK _ (f.put d undef hn))
theorem L.skipN (f : Fr n a l) (hw : Region.wanted o (yielded ops a.tmps) = false) (hd : o.dst = none)
    (hK : ∀ a',Fr n a' l → wpList P ops Q rest a' w) : wpList P ops Q (o :: rest) a w:=
  wpList_step fun K hK'=>by
    rw [if_neg (by rw [hw]; simp),hd]
    exact hK' _ _ (hK _ f)
theorem run_call {fn : Nat} {xs : Array Operand} {ats : Array TypeId} {dst : Option Nat} {ty : TypeId} {ps : String} {af : Array Edge} {g : Option (Nat × Bool)} {args : Array Value}
    (hc : ∀ args w,(callFunc fn args).run P w = .ok (.enter fn args) w) (hx : xs.map a.eval = args) :
    (execOp a.eval ⟨dst,.call { callee:=.value (.func fn),args:=xs,argTypes:=ats },ty,ps,af,g⟩).run P w = .ok (.enter fn args) w:=by
  have e : execOp a.eval ⟨dst,.call { callee:=.value (.func fn),args:=xs,argTypes:=ats },ty,ps,af,g⟩ = callFunc fn (#[] ++ xs.map a.eval ++ #[]):=rfl;rw [e,hx,hc]
  simp
theorem L.call (f : Fr n a l) (hw : Region.wanted o (yielded ops a.tmps) = true) (hd : o.dst = some d) (hn : d < n) {fn : Nat} {args : Array Value} (h : (execOp a.eval o).run P w = .ok (.enter fn args) w)
    {R : Ending → World → Prop} (hc : Calls P fn args w R) (hR : ∀ e w',R e w' → ∃ v,e = .returned v ∧ ∀ a',Fr n a' ((d,v) :: l) → wpList P ops Q rest a' w') : wpList P ops Q (o :: rest) a w:=
  wpList_step fun K hK'=>by
    rw [if_pos hw]
    unfold Oper.wp
    rw [h]
    refine Calls.mono hc ?_
    intro e w' hr
    obtain ⟨v,rfl,hK⟩:=hR e w' hr
    show K (a.put o.dst v) w'
    rw [hd]
    exact hK' _ _ (hK _ (f.put d v hn))
theorem Fr.split {G : Prop} (f : Fr n a l) (i : Nat) {b : Bool} (h : look l i = some (.bool b)) (ht : b = true → Fr n a ((i,.bool true) :: l) → G) (hf : b = false → Fr n a ((i,.bool false) :: l) → G) : G:=by
  cases hb : b
  · exact hf hb (f.as h (by rw [hb]))
  · exact ht hb (f.as h (by rw [hb]))
theorem Fr.splitD {G : Prop} (f : Fr n a l) (i : Nat) {p : Prop} {inst : Decidable p} (h : look l i = some (.bool (@decide p inst))) (ht : p → Fr n a ((i,.bool true) :: l) → G) (hf : ¬ p → Fr n a ((i,.bool false) :: l) → G) : G:=
  f.split i h (fun e=>ht (of_decide_eq_true e)) (fun e=>hf (of_decide_eq_false e))
theorem Fr.splitNB {G : Prop} (f : Fr n a l) (i : Nat) {b : Bool} (h : look l i = some (.bool (!b))) (ht : b = false → Fr n a ((i,.bool true) :: l) → G) (hf : b = true → Fr n a ((i,.bool false) :: l) → G) : G:=
  f.split i h (fun e=>ht (by simpa using e)) (fun e=>hf (by simpa using e))
theorem Fr.splitN {G : Prop} (f : Fr n a l) (i : Nat) {p : Prop} {inst : Decidable p} (h : look l i = some (.bool (!@decide p inst))) (ht : ¬ p → Fr n a ((i,.bool true) :: l) → G) (hf : p → Fr n a ((i,.bool false) :: l) → G) : G:=
  f.split i h (fun e=>ht (by simpa using e)) (fun e=>hf (by simpa using e))
end
section
variable {P : Program} {ops : Array Oper} {Q : Exit → Act → World → Prop} {md : Region.Mode} {S : World → Prop} {a : Act} {w w' : World} {n d : Nat} {l : FL} {v : Value} {o : Oper}
theorem R.begin {id : Nat} (hm : P.follows .mixedOrders = true) (hS : S (w.drewN 1))
    (h : wpAnyH P .any ops Q S ops.size (Array.replicate ops.size false) a (w.drewN 1)) : (Code.region id ops true).wp P Q a w:=wp_region_held hm h
theorem R.take (i : Nat) {fuel : Nat} {listed : Array Bool} (f : Fr n a l) (hi : ops[i]? = some o) (hd : o.dst = some d) (hn : d < n) (hs : Region.noSelect ops = true) (hf : Region.free md ops listed i = true)
    (hr : (Region.ready md ops listed).contains i = true) (hQ : ∀ c (a : Act) (u : Value) w,Q (.panic c) (a.put (some d) u) w → Q (.panic c) a w) (hw : Region.wanted o (yielded ops a.tmps) = true) (hS : S w)
    (hv : ∀ w,S w → (execOp a.eval o).run P w = .ok (.value v) w)
    (hK : ∀ a',Fr n a' ((d,v) :: l) → wpAnyH P md ops Q S fuel (listed.setIfInBounds i true) a' w) : wpAnyH P md ops Q S (fuel + 1) listed a w:=by
  refine wpAnyH_take hi hs hf hr (v:=v) (fun c a w h=>hQ c a v w (by rwa [hd] at h)) (.inl ⟨hw,hv⟩) hS ?_;rw [hd];exact hK _ (f.put d v hn)
theorem R.takeSkip (i : Nat) {fuel : Nat} {listed : Array Bool} (f : Fr n a l) (hi : ops[i]? = some o) (hd : o.dst = some d) (hn : d < n) (hs : Region.noSelect ops = true) (hf : Region.free md ops listed i = true)
    (hr : (Region.ready md ops listed).contains i = true) (hQ : ∀ c (a : Act) (u : Value) w,Q (.panic c) (a.put (some d) u) w → Q (.panic c) a w) (hw : Region.wanted o (yielded ops a.tmps) = false) (hS : S w)
    (hK : ∀ a',Fr n a' ((d,undef) :: l) → wpAnyH P md ops Q S fuel (listed.setIfInBounds i true) a' w) : wpAnyH P md ops Q S (fuel + 1) listed a w:=by
  refine wpAnyH_take hi hs hf hr (v:=undef) (fun c a w h=>hQ c a undef w (by rwa [hd] at h)) (.inr ⟨hw,rfl⟩) hS ?_;rw [hd];exact hK _ (f.put d undef hn)
theorem R.act (i : Nat) {fuel : Nat} {listed : Array Bool} (f : Fr n a l) (hi : ops[i]? = some o) (hd : o.dst = none) (hr : Region.ready md ops listed = [i]) (hw : Region.wanted o (yielded ops a.tmps) = true)
    (hv : (execOp a.eval o).run P w = .ok .skip w') (hS : S w') (hK : ∀ a',Fr n a' l → wpAnyH P md ops Q S fuel (listed.setIfInBounds i true) a' w') : wpAnyH P md ops Q S (fuel + 1) listed a w:=by
  refine wpAnyH_all hr (by simp) ?_;intro j hj;simp only [List.mem_singleton] at hj;subst hj;unfold wpOp;simp only [hi,hw,if_true];refine .inl ?_;unfold Oper.wp;rw [hv];show S w' ∧ wpAnyH P md ops Q S fuel (listed.setIfInBounds j true) (a.put o.dst undef) w';rw [hd];exact ⟨hS,hK _ f⟩
theorem R.call (i : Nat) {fuel : Nat} {listed : Array Bool} (f : Fr n a l) (hi : ops[i]? = some o) (hd : o.dst = some d) (hn : d < n) (hr : Region.ready md ops listed = [i]) (hw : Region.wanted o (yielded ops a.tmps) = true)
    {fn : Nat} {args : Array Value} (h : (execOp a.eval o).run P w = .ok (.enter fn args) w) {R : Ending → World → Prop} (hc : Calls P fn args w R)
    (hR : ∀ e w',R e w' → ∃ v,e = .returned v ∧ S w' ∧ ∀ a',Fr n a' ((d,v) :: l) → wpAnyH P md ops Q S fuel (listed.setIfInBounds i true) a' w') : wpAnyH P md ops Q S (fuel + 1) listed a w:=by
  refine wpAnyH_all hr (by simp) ?_;intro j hj;simp only [List.mem_singleton] at hj;subst hj;unfold wpOp;simp only [hi,hw,if_true];refine .inl ?_;unfold Oper.wp;rw [h];refine Calls.mono hc ?_;intro e w' hr;obtain ⟨v,rfl,hS,hK⟩:=hR e w' hr;show S w' ∧ wpAnyH P md ops Q S fuel (listed.setIfInBounds j true) (a.put o.dst v) w';rw [hd];exact ⟨hS,hK _ (f.put d v hn)⟩
theorem R.done {fuel : Nat} {listed : Array Bool} (hr : Region.ready md ops listed = []) (h : Q .normal a w) : wpAnyH P md ops Q S fuel listed a w:=wpAnyH_done hr h fuel
end
section
variable {P : Program} {Q : Exit → Act → World → Prop} {a : Act} {w : World} {n : Nat} {l : FL}
theorem C.region {id : Nat} {ops : List Oper} (h : wpList P ops.toArray Q ops a w) : (Code.region id ops.toArray false).wp P Q a w:=wp_region_lit h
theorem C.condT (f : Fr n a l) {c : Operand} {x y : Code} (hc : evl l c = some (.bool true)) (h : x.wp P Q a w) : (Code.cond c x y).wp P Q a w:=wp_cond_true (f.ev hc) h
theorem C.condF (f : Fr n a l) {c : Operand} {x y : Code} (hc : evl l c = some (.bool false)) (h : y.wp P Q a w) : (Code.cond c x y).wp P Q a w:=wp_cond_false (f.ev hc) h
theorem C.cut {x y : Code} (J : Act → World → Prop) (h : x.wp P (Exit.then J Q) a w) (hr : ∀ a w,J a w → y.wp P Q a w) : (Code.seq x y).wp P Q a w:=
  wp_seq (Code.wp_mono (fun e a w q=>by cases e <;> first | exact hr _ _ q | exact q) h)
theorem C.loop (I : Nat → Act → World → Prop) (n₀ : Nat) {c : Code} (h₀ : I n₀ a w)
    (round : ∀ n a w,I n a w → ∀ K : Act → World → Prop,(∀ a w k,k < n → I k a w → K a w) → c.wp P (Exit.then K Q) a w) : (Code.loop c).wp P Q a w:=
  wp_loop_ghost I n₀ h₀ fun n a w h=>round n a w h _ fun a w k hk hI=>⟨k,hk,hI⟩
theorem C.enter {f : Nat} {fn : Func} {c : Code} {args : Array Value} {R : Ending → World → Prop} {n : Nat} (hf : P.funcs[f]? = some fn) (hb : fn.body = some c) (hn : fn.ntmps = n) (hs : Nat.ble args.size n = true)
    (h : ∀ a,Fr n a (args.toList.zipIdx.map fun p=>(p.2,p.1)) → c.wp P (bodyPost P fn R) a w) : Calls P f args w R:=by
  refine calls_of_wp hf hb (h _ ?_);rw [hn];exact Fr.start args n (Nat.le_of_ble_eq_true hs)
theorem C.ret {fn : Func} {R : Ending → World → Prop} (f : Fr n a l) {t : Tmp} (hr : fn.results = #[.tmp t]) {v : Value} (hv : look l t = some v) (h : R (.returned v) w) : bodyPost P fn R .ret a w:=
  bodyPost_ret (by rw [results_tmp hr,f.get hv]) f.defers h
theorem C.ret2 {fn : Func} {R : Ending → World → Prop} (f : Fr n a l) {t u : Tmp} (hr : fn.results = #[.tmp t,.tmp u]) {v v' : Value} (hv : look l t = some v) (hv' : look l u = some v') (h : R (.returned (.tuple #[v,v'])) w) : bodyPost P fn R .ret a w:=
  bodyPost_ret (by rw [results_tmp2 hr,f.get hv,f.get hv']) f.defers h
end
end Go.Hub
namespace Go.Hub
open Go.RowKit
theorem beqD {α : Type} [BEq α] [LawfulBEq α] [DecidableEq α] (a b : α) : (a == b) = decide (a = b):=by by_cases h : a = b <;> simp [h]
section
variable {P : Program} {a : Act} {w : World} {n : Nat} {l : FL} {dst : Option Nat} {ty : TypeId} {ps : String} {af : Array Edge} {g : Option (Nat × Bool)} {x y z : Operand} {t u : TypeId}
theorem E.move (f : Fr n a l) {v : Value} (hx : evl l x = some v) : (execOp a.eval ⟨dst,.move x,ty,ps,af,g⟩).run P w = .ok (.value v) w:=by simp [execOp,f.ev hx]
theorem E.assign (f : Fr n a l) {v : Value} (hx : evl l x = some v) : (execOp a.eval ⟨dst,.assign x,ty,ps,af,g⟩).run P w = .ok (.value v) w:=by simp [execOp,f.ev hx]
theorem E.pickT (f : Fr n a l) {v : Value} (hc : evl l x = some (.bool true)) (hv : evl l y = some v) : (execOp a.eval ⟨dst,.pick x y z,ty,ps,af,g⟩).run P w = .ok (.value v) w:=by simp [execOp,f.ev hc,f.ev hv,asBool]
theorem E.pickF (f : Fr n a l) {v : Value} (hc : evl l x = some (.bool false)) (hv : evl l z = some v) : (execOp a.eval ⟨dst,.pick x y z,ty,ps,af,g⟩).run P w = .ok (.value v) w:=by simp [execOp,f.ev hc,f.ev hv,asBool]
theorem E.add (f : Fr n a l) {k : IntKind} {i j r : Int} (hx : evl l x = some (.int k i)) (hy : evl l y = some (.int k j)) (hr : k.wrap (i + j) = r) : (execOp a.eval ⟨dst,.binOp .add t x y u,ty,ps,af,g⟩).run P w = .ok (.value (.int k r)) w:=by
  simp [execOp,f.ev hx,f.ev hy,eqGuard,binOp,Op.intArith,hr]
theorem E.sub (f : Fr n a l) {k : IntKind} {i j r : Int} (hx : evl l x = some (.int k i)) (hy : evl l y = some (.int k j)) (hr : k.wrap (i - j) = r) : (execOp a.eval ⟨dst,.binOp .sub t x y u,ty,ps,af,g⟩).run P w = .ok (.value (.int k r)) w:=by
  simp [execOp,f.ev hx,f.ev hy,eqGuard,binOp,Op.intArith,hr]
theorem E.quo (f : Fr n a l) {k : IntKind} {i j r : Int} (hx : evl l x = some (.int k i)) (hy : evl l y = some (.int k j)) (h0 : j ≠ 0) (hr : k.wrap (i.tdiv j) = r) : (execOp a.eval ⟨dst,.binOp .quo t x y u,ty,ps,af,g⟩).run P w = .ok (.value (.int k r)) w:=by
  simp [execOp,f.ev hx,f.ev hy,eqGuard,binOp,Op.intDiv,h0,hr]
theorem E.rem (f : Fr n a l) {k : IntKind} {i j r : Int} (hx : evl l x = some (.int k i)) (hy : evl l y = some (.int k j)) (h0 : j ≠ 0) (hr : i.tmod j = r) : (execOp a.eval ⟨dst,.binOp .rem t x y u,ty,ps,af,g⟩).run P w = .ok (.value (.int k r)) w:=by
  simp [execOp,f.ev hx,f.ev hy,eqGuard,binOp,Op.intDiv,h0,hr]
theorem E.shr (f : Fr n a l) {k k' : IntKind} {i j r : Int} (hx : evl l x = some (.int k i)) (hy : evl l y = some (.int k' j)) (h0 : 0 ≤ j) (hr : i.fdiv (2 ^ (Min.min j.toNat k.bits)) = r) : (execOp a.eval ⟨dst,.binOp .shr t x y u,ty,ps,af,g⟩).run P w = .ok (.value (.int k r)) w:=by
  have h1 : ¬ j < 0:=by omega
  simp [execOp,f.ev hx,f.ev hy,eqGuard,binOp,Op.shift,h1,hr]
theorem shr1 (i : Int) : i.fdiv (2 ^ (Min.min (1 : Int).toNat IntKind.u64.bits)) = i / 2:=by
  have : (2 : Int) ^ (Min.min (1 : Int).toNat IntKind.u64.bits) = 2:=by decide
  rw [this];exact Int.fdiv_eq_ediv_of_nonneg _ (by decide)
theorem E.eql (f : Fr n a l) {k : IntKind} {i j : Int} (hx : evl l x = some (.int k i)) (hy : evl l y = some (.int k j)) : (execOp a.eval ⟨dst,.binOp .eql t x y u,ty,ps,af,g⟩).run P w = .ok (.value (.bool (decide (i = j)))) w:=by
  simp [execOp,f.ev hx,f.ev hy,eqGuard,binOp,Op.intCmp,beqD]
theorem E.neq (f : Fr n a l) {k : IntKind} {i j : Int} (hx : evl l x = some (.int k i)) (hy : evl l y = some (.int k j)) : (execOp a.eval ⟨dst,.binOp .neq t x y u,ty,ps,af,g⟩).run P w = .ok (.value (.bool (!decide (i = j)))) w:=by
  simp [execOp,f.ev hx,f.ev hy,eqGuard,binOp,Op.intCmp,bne,beqD]
theorem E.lss (f : Fr n a l) {k : IntKind} {i j : Int} (hx : evl l x = some (.int k i)) (hy : evl l y = some (.int k j)) : (execOp a.eval ⟨dst,.binOp .lss t x y u,ty,ps,af,g⟩).run P w = .ok (.value (.bool (decide (i < j)))) w:=by
  simp [execOp,f.ev hx,f.ev hy,eqGuard,binOp,Op.intCmp]
theorem E.leq (f : Fr n a l) {k : IntKind} {i j : Int} (hx : evl l x = some (.int k i)) (hy : evl l y = some (.int k j)) : (execOp a.eval ⟨dst,.binOp .leq t x y u,ty,ps,af,g⟩).run P w = .ok (.value (.bool (decide (i ≤ j)))) w:=by
  simp [execOp,f.ev hx,f.ev hy,eqGuard,binOp,Op.intCmp]
theorem E.gtr (f : Fr n a l) {k : IntKind} {i j : Int} (hx : evl l x = some (.int k i)) (hy : evl l y = some (.int k j)) : (execOp a.eval ⟨dst,.binOp .gtr t x y u,ty,ps,af,g⟩).run P w = .ok (.value (.bool (decide (j < i)))) w:=by
  simp [execOp,f.ev hx,f.ev hy,eqGuard,binOp,Op.intCmp]
theorem E.geq (f : Fr n a l) {k : IntKind} {i j : Int} (hx : evl l x = some (.int k i)) (hy : evl l y = some (.int k j)) : (execOp a.eval ⟨dst,.binOp .geq t x y u,ty,ps,af,g⟩).run P w = .ok (.value (.bool (decide (j ≤ i)))) w:=by
  simp [execOp,f.ev hx,f.ev hy,eqGuard,binOp,Op.intCmp]
theorem toList_eq_iff {s r : ByteArray} : s.toList = r.toList ↔ s = r:=by
  rw [ByteArray.toList_eq,ByteArray.toList_eq]
  constructor
  · intro h
    exact ByteArray.ext (Array.toList_inj.mp h)
  · intro h; rw [h]
theorem E.eqlS (f : Fr n a l) {s r : ByteArray} (hx : evl l x = some (.string s)) (hy : evl l y = some (.string r)) : (execOp a.eval ⟨dst,.binOp .eql t x y u,ty,ps,af,g⟩).run P w = .ok (.value (.bool (decide (s = r)))) w:=by
  simp [execOp,f.ev hx,f.ev hy,eqGuard,binOp,Op.stringOp,beqD,toList_eq_iff]
theorem E.neqS (f : Fr n a l) {s r : ByteArray} (hx : evl l x = some (.string s)) (hy : evl l y = some (.string r)) : (execOp a.eval ⟨dst,.binOp .neq t x y u,ty,ps,af,g⟩).run P w = .ok (.value (.bool (!decide (s = r)))) w:=by
  simp [execOp,f.ev hx,f.ev hy,eqGuard,binOp,Op.stringOp,beqD,toList_eq_iff]
theorem E.lssS (f : Fr n a l) {s r : ByteArray} (hx : evl l x = some (.string s)) (hy : evl l y = some (.string r)) : (execOp a.eval ⟨dst,.binOp .lss t x y u,ty,ps,af,g⟩).run P w = .ok (.value (.bool (Op.bytesLess s.toList r.toList))) w:=by
  simp [execOp,f.ev hx,f.ev hy,eqGuard,binOp,Op.stringOp]
theorem E.geqS (f : Fr n a l) {s r : ByteArray} (hx : evl l x = some (.string s)) (hy : evl l y = some (.string r)) : (execOp a.eval ⟨dst,.binOp .geq t x y u,ty,ps,af,g⟩).run P w = .ok (.value (.bool (!Op.bytesLess s.toList r.toList))) w:=by
  simp [execOp,f.ev hx,f.ev hy,eqGuard,binOp,Op.stringOp]
theorem E.addS (f : Fr n a l) {s r : ByteArray} (hx : evl l x = some (.string s)) (hy : evl l y = some (.string r)) (hb : s.size + r.size ≤ 9223372036854775807) : (execOp a.eval ⟨dst,.binOp .add t x y u,ty,ps,af,g⟩).run P w = .ok (.value (.string (s ++ r))) w:=by
  have h : ¬ (((s.size + r.size : Nat) : Int) > IntKind.i64.max):=by
    have : IntKind.i64.max = 9223372036854775807:=by decide
    rw [this]; omega
  simp only [execOp,f.ev hx,f.ev hy,eqGuard,binOp,Op.stringOp];simp only [h,if_false]
  rfl
theorem E.eqlB (f : Fr n a l) {b c : Bool} (ht : P.underlying t = some .bool) (hx : evl l x = some (.bool b)) (hy : evl l y = some (.bool c)) : (execOp a.eval ⟨dst,.binOp .eql t x y u,ty,ps,af,g⟩).run P w = .ok (.value (.bool (b == c))) w:=by
  simp [execOp,f.ev hx,f.ev hy,eqGuard,binOp,Op.equal,Op.maxDepth,run_equalIn_bool' w _ t b c ht]
theorem E.neqB (f : Fr n a l) {b c : Bool} (ht : P.underlying t = some .bool) (hx : evl l x = some (.bool b)) (hy : evl l y = some (.bool c)) : (execOp a.eval ⟨dst,.binOp .neq t x y u,ty,ps,af,g⟩).run P w = .ok (.value (.bool (b != c))) w:=by
  simp [execOp,f.ev hx,f.ev hy,eqGuard,binOp,Op.equal,Op.maxDepth,run_equalIn_bool' w _ t b c ht,bne]
theorem E.eqlV (f : Fr n a l) {v v' : Value} {b : Bool} (hx : evl l x = some v) (hy : evl l y = some v') (h : ∀ w,(do eqGuard .eql t x y v v'; binOp .eql t v v' : Sem Value).run P w = .ok (.bool b) w) : (execOp a.eval ⟨dst,.binOp .eql t x y u,ty,ps,af,g⟩).run P w = .ok (.value (.bool b)) w:=by
  have:=h w;simp only [execOp,f.ev hx,f.ev hy];rw [Sem.run_bind,this]
  rfl
theorem E.neqV (f : Fr n a l) {v v' : Value} {b : Bool} (hx : evl l x = some v) (hy : evl l y = some v') (h : ∀ w,(do eqGuard .neq t x y v v'; binOp .neq t v v' : Sem Value).run P w = .ok (.bool b) w) : (execOp a.eval ⟨dst,.binOp .neq t x y u,ty,ps,af,g⟩).run P w = .ok (.value (.bool b)) w:=by
  have:=h w;simp only [execOp,f.ev hx,f.ev hy];rw [Sem.run_bind,this]
  rfl
theorem E.not (f : Fr n a l) {b : Bool} (hx : evl l x = some (.bool b)) : (execOp a.eval ⟨dst,.unOp .not t x,ty,ps,af,g⟩).run P w = .ok (.value (.bool (!b))) w:=by simp [execOp,f.ev hx,Op.unary]
theorem E.conv (f : Fr n a l) {k k' : IntKind} {i r : Int} (ht : P.underlying t = some (.int k)) (hu : P.underlying u = some (.int k')) (hx : evl l x = some (.int k i)) (hr : k'.wrap i = r) : (execOp a.eval ⟨dst,.convert t u x,ty,ps,af,g⟩).run P w = .ok (.value (.int k' r)) w:=by
  simp [execOp,f.ev hx,convert,run_underlying ht,run_underlying hu,Conv.intToInt,hr]
theorem E.convV (f : Fr n a l) {v v' : Value} {w' : World} (hx : evl l x = some v) (h : (convert t u v).run P w = .ok v' w') : (execOp a.eval ⟨dst,.convert t u x,ty,ps,af,g⟩).run P w = .ok (.value v') w':=by
  simp [execOp,f.ev hx,h]
theorem E.field (f : Fr n a l) {cs : Array Value} {fs : Array Field} {i : Nat} {fld : Field} {d : TypeDesc} {v : Value} (ht : P.underlying t = some (.struct fs)) (hx : evl l x = some (.agg cs)) (hi : fs[i]? = some fld)
    (hd : P.underlying fld.type = some d) (hd' : d.isRow = false) (hv : cs[fld.offset]? = some v) : (execOp a.eval ⟨dst,.field t x i,ty,ps,af,g⟩).run P w = .ok (.value v) w:=by
  have hagg : (isAgg fld.type).run P w = .ok false w:=by
    unfold isAgg;rw [Sem.run_bind,run_underlying hd w]
    cases d <;> simp_all [TypeDesc.isRow]
  simp [execOp,f.ev hx,Instr.field,run_underlying ht,hi,part,asAgg,hagg,hv]
theorem E.extract (f : Fr n a l) {vs : Array Value} {i : Nat} {v : Value} (hx : evl l x = some (.tuple vs)) (hi : vs[i]? = some v) : (execOp a.eval ⟨dst,.extract x i,ty,ps,af,g⟩).run P w = .ok (.value v) w:=by
  simp [execOp,f.ev hx,Instr.extract,hi]
theorem E.build (f : Fr n a l) {parts : Array (Nat × Operand)} {vs : List (Nat × Value)} {cs : Array Value} (hx : (parts.map fun p=>(p.1,a.eval p.2)).toList = vs) (hb : P.built t vs = some cs) : (execOp a.eval ⟨dst,.build t parts,ty,ps,af,g⟩).run P w = .ok (.value (.agg cs)) w:=by
  have hx' : (parts.map fun (i,x)=>(i,a.eval x)).toList = vs:=hx;have hr:=run_build (P:=P) w t (parts.map fun (i,x)=>(i,a.eval x)) cs (by rw [hx']; exact hb);simp only [execOp];rw [Sem.run_bind,hr]
  rfl
theorem E.lenS (f : Fr n a l) {s : ByteArray} (ht : P.underlying t = some .string) (hx : evl l x = some (.string s)) : (execOp a.eval ⟨dst,.call { callee:=.builtin .len,args:=#[x],argTypes:=#[t] },ty,ps,af,g⟩).run P w = .ok (.value (.int .i64 s.size)) w:=by
  simp [execOp,resolve,invoke,builtin,f.ev hx,Builtin.len_,run_underlying ht,goInt]
theorem E.lenL (f : Fr n a l) {e : TypeId} {A : Option Addr} {m c : Nat} (ht : P.underlying t = some (.slice e)) (hx : evl l x = some (.slice A m c)) : (execOp a.eval ⟨dst,.call { callee:=.builtin .len,args:=#[x],argTypes:=#[t] },ty,ps,af,g⟩).run P w = .ok (.value (.int .i64 m)) w:=by
  simp [execOp,resolve,invoke,builtin,f.ev hx,Builtin.len_,run_underlying ht,goInt]
theorem E.min (f : Fr n a l) {k : IntKind} {i j : Int} (hx : evl l x = some (.int k i)) (hy : evl l y = some (.int k j)) : (execOp a.eval ⟨dst,.call { callee:=.builtin .min,args:=#[x,y],argTypes:=#[t,u] },ty,ps,af,g⟩).run P w = .ok (.value (.int k (Min.min i j))) w:=by
  have e : Min.min i j = if j < i then j else i:=by rw [Int.min_def]; split <;> split <;> omega
  simp [execOp,resolve,invoke,builtin,f.ev hx,f.ev hy,Builtin.min_,Builtin.min2,e]
theorem E.max (f : Fr n a l) {k : IntKind} {i j : Int} (hx : evl l x = some (.int k i)) (hy : evl l y = some (.int k j)) : (execOp a.eval ⟨dst,.call { callee:=.builtin .max,args:=#[x,y],argTypes:=#[t,u] },ty,ps,af,g⟩).run P w = .ok (.value (.int k (Max.max i j))) w:=by
  have e : Max.max i j = if i < j then j else i:=by rw [Int.max_def]; split <;> split <;> omega
  simp [execOp,resolve,invoke,builtin,f.ev hx,f.ev hy,Builtin.max_,Builtin.max2,e]
theorem add_plain (b o k : Nat) : (⟨b,o,none⟩ : Addr).add k = ⟨b,o + k,none⟩:=Addr.add_mid b o k
theorem E.fieldAddr (f : Fr n a l) {fs : Array Field} {i : Nat} {fld : Field} {b o s : Nat} (ht : P.underlying t = some (.struct fs)) (hx : evl l x = some (.pointer (some ⟨b, o, none⟩))) (hi : fs[i]? = some fld)
    (hs : (P.info? fld.type).map (·.size) = some (s + 1)) : (execOp a.eval ⟨dst,.fieldAddr t x i,ty,ps,af,g⟩).run P w = .ok (.value (.pointer (some ⟨b,o + fld.offset,none⟩))) w:=by
  cases hq : P.info? fld.type with
  | none=>simp [hq] at hs
  | some i'=>
    have hs' : i'.size = s + 1:=by simpa [hq] using hs
    simp [execOp,f.ev hx,Instr.fieldAt,run_underlying ht,hi,Instr.sureAddr,fieldPlace,sizeOf,typeInfo,hq,hs',add_plain]
theorem E.indexAddr (f : Fr n a l) {e : TypeId} {b o m c s : Nat} {k : IntKind} {i : Int} (ht : P.underlying t = some (.slice e)) (hs : (P.info? e).map (·.size) = some s) (hx : evl l x = some (.slice (some ⟨b, o, none⟩) m c)) (hy : evl l y = some (.int k i))
    (h0 : 0 ≤ i) (h1 : i < m) : (execOp a.eval ⟨dst,.indexAddr t x y,ty,ps,af,g⟩).run P w = .ok (.value (.pointer (some ⟨b,o + i.toNat * s,none⟩))) w:=by
  cases hq : P.info? e with
  | none=>simp [hq] at hs
  | some i'=>
    have hs' : i'.size = s:=by simpa [hq] using hs
    simp [execOp,f.ev hx,f.ev hy,Instr.indexAt,asIntOf,run_underlying ht,h0,h1,sizeOf,typeInfo,hq,hs',add_plain]
theorem E.load (f : Fr n a l) {ad : Addr} {v : Value} {d : TypeDesc} (ht : P.underlying t = some d) (hd : d.isRow = false) (hx : evl l x = some (.pointer (some ad))) (hc : w.cell? ad = some v) : (execOp a.eval ⟨dst,.load t x,ty,ps,af,g⟩).run P w = .ok (.value v) w:=by
  have hagg : (isAgg t).run P w = .ok false w:=by
    unfold isAgg;rw [Sem.run_bind,run_underlying ht w]
    cases d <;> simp_all [TypeDesc.isRow]
  simp [execOp,f.ev hx,Instr.loadAt,Instr.sureAddr,loadVar,hagg,load,Sem.run,hc]
theorem E.loadR (f : Fr n a l) {b o s : Nat} {cs : List Value} {d : TypeDesc} (ht : P.underlying t = some d) (hd : d.isRow = true) (hi : (P.info? t).map (·.size) = some s) (hx : evl l x = some (.pointer (some ⟨b, o, none⟩))) (hc : w.rangeAt b o cs) (hl : cs.length = s) :
    (execOp a.eval ⟨dst,.load t x,ty,ps,af,g⟩).run P w = .ok (.value (.agg cs.toArray)) w:=by
  subst hl;simp only [execOp,f.ev hx];rw [Sem.run_bind,run_loadAt_mid w b o t cs d hc ht hd hi]
  rfl
theorem E.store (f : Fr n a l) {b o : Nat} {v old : Value} (hi : (P.info? t).map (·.size) = some 1) (hx : evl l x = some (.pointer (some ⟨b, o, none⟩))) (hy : evl l y = some v) (h1 : v.oneCell' = true) (hc : w.cell? ⟨b, o, none⟩ = some old) (hf : w.frozen? ⟨b, o, none⟩ = false) :
    (execOp a.eval ⟨dst,.store t x y,ty,ps,af,g⟩).run P w = .ok .skip (w.setCell ⟨b,o,none⟩ v):=by
  have hcs : v.cells = #[v]:=by cases v <;> first | rfl | cases h1
  have:=run_storeCells_cells (P:=P) b o [v] 0 w (fun j hj=>by simp at hj; subst hj; simp [hc]) (fun j hj=>by simp at hj; subst hj; simpa using hf) (fun u hu=>by simp at hu; subst hu; exact h1)
  cases hq : P.info? t with
  | none=>simp [hq] at hi
  | some i=>
    have hs : i.size = 1:=by simpa [hq] using hi
    simp only [execOp,f.ev hx,f.ev hy];simp only [Nat.add_zero,World.setCells] at this;simp [Instr.storeAt,Instr.sureAddr,storeVar,sizeOf,typeInfo,hq,hcs,hs,this]
theorem E.storeR (f : Fr n a l) {b o : Nat} {cs : Array Value} (hi : (P.info? t).map (·.size) = some cs.size) (hx : evl l x = some (.pointer (some ⟨b, o, none⟩))) (hy : evl l y = some (.agg cs)) (h1 : cs.all (·.oneCell') = true) (ht : w.there b o cs.size) :
    (execOp a.eval ⟨dst,.store t x y,ty,ps,af,g⟩).run P w = .ok .skip (w.setCells b o cs.toList):=by
  simp only [execOp,f.ev hx,f.ev hy];rw [Sem.run_bind,run_storeAt_mid w b o t cs ht hi h1]
  rfl
theorem E.alloc (f : Fr n a l) {z : Value} (hz : ∀ w,(zeroValue t).run P w = .ok z w) : (execOp a.eval ⟨dst,.alloc t,ty,ps,af,g⟩).run P w = .ok (.value (.pointer (some ⟨w.heap.size,0,none⟩))) (w.alloc (.cells z.cells t)):=by
  simp only [execOp,Instr.alloc];rw [Sem.run_bind,Sem.run_bind,hz w]
  rfl
theorem E.box (f : Fr n a l) {v : Value} (hx : evl l x = some v) : (execOp a.eval ⟨dst,.box t x,ty,ps,af,g⟩).run P w = .ok (.value (.pointer (some ⟨w.heap.size,0,none⟩))) (w.alloc (.cells v.cells t)):=by
  simp only [execOp,f.ev hx]
  rfl
theorem E.slS (f : Fr n a l) {s : ByteArray} {i j : Int} {ki kj : IntKind} (ht : P.underlying t = some .string) (hx : evl l x = some (.string s)) (hy : evl l y = some (.int ki i)) (hz : evl l z = some (.int kj j)) (h0 : 0 ≤ i) (h1 : i ≤ j) (h2 : j ≤ s.size) :
    (execOp a.eval ⟨dst,.slice t x (some y) (some z) none,ty,ps,af,g⟩).run P w = .ok (.value (.string (s.extract i.toNat j.toNat))) w:=by
  have e1 : i ≤ ((j.toNat : Nat) : Int):=by omega
  simp [execOp,f.ev hx,f.ev hy,f.ev hz,Instr.sliceAt,Instr.slice,Instr.sliceBounds,Instr.sliceBound,asIntOf,run_underlying ht,h0,h2,e1,show 0 ≤ j by omega];intro hh;omega
theorem E.slShi (f : Fr n a l) {s : ByteArray} {i : Int} {ki : IntKind} (ht : P.underlying t = some .string) (hx : evl l x = some (.string s)) (hy : evl l y = some (.int ki i)) (h0 : 0 ≤ i) (h1 : i ≤ s.size) :
    (execOp a.eval ⟨dst,.slice t x none (some y) none,ty,ps,af,g⟩).run P w = .ok (.value (.string (s.extract 0 i.toNat))) w:=by
  simp [execOp,f.ev hx,f.ev hy,Instr.sliceAt,Instr.slice,Instr.sliceBounds,Instr.sliceBound,asIntOf,run_underlying ht,h0,h1]
theorem E.slLlo (f : Fr n a l) {e : TypeId} {A : Option Addr} {m c s : Nat} {i : Int} {ki : IntKind} (ht : P.underlying t = some (.slice e)) (hs : (P.info? e).map (·.size) = some s) (hx : evl l x = some (.slice A m c)) (hy : evl l y = some (.int ki i)) (h0 : 0 ≤ i) (h1 : i ≤ m) :
    (execOp a.eval ⟨dst,.slice t x (some y) none none,ty,ps,af,g⟩).run P w = .ok (.value (.slice (if c = i.toNat then A else A.map (·.add (i.toNat * s))) (m - i.toNat) (c - i.toNat))) w:=by
  cases hq : P.info? e with
  | none=>simp [hq] at hs
  | some i'=>
    have hs' : i'.size = s:=by simpa [hq] using hs
    simp [execOp,f.ev hx,f.ev hy,Instr.sliceAt,Instr.slice,Instr.sliceBounds,Instr.sliceBound,asIntOf,run_underlying ht,h0,h1,sizeOf,typeInfo,hq,hs']
theorem E.slLhi (f : Fr n a l) {e : TypeId} {A : Option Addr} {m c s : Nat} {i : Int} {ki : IntKind} (ht : P.underlying t = some (.slice e)) (hs : (P.info? e).map (·.size) = some s) (hx : evl l x = some (.slice A m c)) (hy : evl l y = some (.int ki i)) (h0 : 0 ≤ i) (h1 : i ≤ c) :
    (execOp a.eval ⟨dst,.slice t x none (some y) none,ty,ps,af,g⟩).run P w = .ok (.value (.slice A i.toNat c)) w:=by
  cases hq : P.info? e with
  | none=>simp [hq] at hs
  | some i'=>
    have hs' : i'.size = s:=by simpa [hq] using hs
    have e0 : (A.map fun a=>a.add 0) = A:=by cases A with
      | none=>rfl
      | some b=>cases b with | mk b o s=>simp [Addr.add]
    simp [execOp,f.ev hx,f.ev hy,Instr.sliceAt,Instr.slice,Instr.sliceBounds,Instr.sliceBound,asIntOf,run_underlying ht,h0,h1,sizeOf,typeInfo,hq,hs',e0]
theorem E.indexS (f : Fr n a l) {s : ByteArray} {i : Int} {ki : IntKind} {b : UInt8} (ht : P.underlying t = some .string) (hx : evl l x = some (.string s)) (hy : evl l y = some (.int ki i)) (h0 : 0 ≤ i) (hb : s[i.toNat]? = some b) :
    (execOp a.eval ⟨dst,.index t x y,ty,ps,af,g⟩).run P w = .ok (.value (.int .u8 b.toNat)) w:=by
  simp [execOp,f.ev hx,f.ev hy,Instr.index,asIntOf,run_underlying ht,h0,hb]
end
section
variable {a : Act} {n : Nat} {l : FL}
theorem args0 (f : Fr n a l) : (#[] : Array Operand).map a.eval = #[]:=by simp
theorem args1 (f : Fr n a l) {x0 : Operand} {v0 : Value} (h0 : evl l x0 = some v0) : #[x0].map a.eval = #[v0]:=by simp [f.ev h0]
theorem args2 (f : Fr n a l) {x0 x1 : Operand} {v0 v1 : Value} (h0 : evl l x0 = some v0) (h1 : evl l x1 = some v1) : #[x0,x1].map a.eval = #[v0,v1]:=by simp [f.ev h0,f.ev h1]
theorem args3 (f : Fr n a l) {x0 x1 x2 : Operand} {v0 v1 v2 : Value} (h0 : evl l x0 = some v0) (h1 : evl l x1 = some v1) (h2 : evl l x2 = some v2) : #[x0,x1,x2].map a.eval = #[v0,v1,v2]:=by simp [f.ev h0,f.ev h1,f.ev h2]
theorem args4 (f : Fr n a l) {x0 x1 x2 x3 : Operand} {v0 v1 v2 v3 : Value} (h0 : evl l x0 = some v0) (h1 : evl l x1 = some v1) (h2 : evl l x2 = some v2) (h3 : evl l x3 = some v3) : #[x0,x1,x2,x3].map a.eval = #[v0,v1,v2,v3]:=by simp [f.ev h0,f.ev h1,f.ev h2,f.ev h3]
theorem args5 (f : Fr n a l) {x0 x1 x2 x3 x4 : Operand} {v0 v1 v2 v3 v4 : Value} (h0 : evl l x0 = some v0) (h1 : evl l x1 = some v1) (h2 : evl l x2 = some v2) (h3 : evl l x3 = some v3) (h4 : evl l x4 = some v4) : #[x0,x1,x2,x3,x4].map a.eval = #[v0,v1,v2,v3,v4]:=by simp [f.ev h0,f.ev h1,f.ev h2,f.ev h3,f.ev h4]
theorem parts0 (f : Fr n a l) : ((#[] : Array (Nat × Operand)).map fun p=>(p.1,a.eval p.2)).toList = []:=by simp
theorem parts1 (f : Fr n a l) {i0 : Nat} {x0 : Operand} {v0 : Value} (h0 : evl l x0 = some v0) : (#[(i0,x0)].map fun (p : Nat × Operand)=>(p.1,a.eval p.2)).toList = [(i0,v0)]:=by simp [f.ev h0]
theorem parts2 (f : Fr n a l) {i0 i1 : Nat} {x0 x1 : Operand} {v0 v1 : Value} (h0 : evl l x0 = some v0) (h1 : evl l x1 = some v1) : (#[(i0,x0),(i1,x1)].map fun (p : Nat × Operand)=>(p.1,a.eval p.2)).toList = [(i0,v0),(i1,v1)]:=by simp [f.ev h0,f.ev h1]
theorem parts3 (f : Fr n a l) {i0 i1 i2 : Nat} {x0 x1 x2 : Operand} {v0 v1 v2 : Value} (h0 : evl l x0 = some v0) (h1 : evl l x1 = some v1) (h2 : evl l x2 = some v2) : (#[(i0,x0),(i1,x1),(i2,x2)].map fun (p : Nat × Operand)=>(p.1,a.eval p.2)).toList = [(i0,v0),(i1,v1),(i2,v2)]:=by simp [f.ev h0,f.ev h1,f.ev h2]
theorem parts4 (f : Fr n a l) {i0 i1 i2 i3 : Nat} {x0 x1 x2 x3 : Operand} {v0 v1 v2 v3 : Value} (h0 : evl l x0 = some v0) (h1 : evl l x1 = some v1) (h2 : evl l x2 = some v2) (h3 : evl l x3 = some v3) : (#[(i0,x0),(i1,x1),(i2,x2),(i3,x3)].map fun (p : Nat × Operand)=>(p.1,a.eval p.2)).toList = [(i0,v0),(i1,v1),(i2,v2),(i3,v3)]:=by simp [f.ev h0,f.ev h1,f.ev h2,f.ev h3]
theorem parts5 (f : Fr n a l) {i0 i1 i2 i3 i4 : Nat} {x0 x1 x2 x3 x4 : Operand} {v0 v1 v2 v3 v4 : Value} (h0 : evl l x0 = some v0) (h1 : evl l x1 = some v1) (h2 : evl l x2 = some v2) (h3 : evl l x3 = some v3) (h4 : evl l x4 = some v4) : (#[(i0,x0),(i1,x1),(i2,x2),(i3,x3),(i4,x4)].map fun (p : Nat × Operand)=>(p.1,a.eval p.2)).toList = [(i0,v0),(i1,v1),(i2,v2),(i3,v3),(i4,v4)]:=by simp [f.ev h0,f.ev h1,f.ev h2,f.ev h3,f.ev h4]
theorem parts6 (f : Fr n a l) {i0 i1 i2 i3 i4 i5 : Nat} {x0 x1 x2 x3 x4 x5 : Operand} {v0 v1 v2 v3 v4 v5 : Value} (h0 : evl l x0 = some v0) (h1 : evl l x1 = some v1) (h2 : evl l x2 = some v2) (h3 : evl l x3 = some v3) (h4 : evl l x4 = some v4) (h5 : evl l x5 = some v5) : (#[(i0,x0),(i1,x1),(i2,x2),(i3,x3),(i4,x4),(i5,x5)].map fun (p : Nat × Operand)=>(p.1,a.eval p.2)).toList = [(i0,v0),(i1,v1),(i2,v2),(i3,v3),(i4,v4),(i5,v5)]:=by simp [f.ev h0,f.ev h1,f.ev h2,f.ev h3,f.ev h4,f.ev h5]
theorem parts7 (f : Fr n a l) {i0 i1 i2 i3 i4 i5 i6 : Nat} {x0 x1 x2 x3 x4 x5 x6 : Operand} {v0 v1 v2 v3 v4 v5 v6 : Value} (h0 : evl l x0 = some v0) (h1 : evl l x1 = some v1) (h2 : evl l x2 = some v2) (h3 : evl l x3 = some v3) (h4 : evl l x4 = some v4) (h5 : evl l x5 = some v5) (h6 : evl l x6 = some v6) : (#[(i0,x0),(i1,x1),(i2,x2),(i3,x3),(i4,x4),(i5,x5),(i6,x6)].map fun (p : Nat × Operand)=>(p.1,a.eval p.2)).toList = [(i0,v0),(i1,v1),(i2,v2),(i3,v3),(i4,v4),(i5,v5),(i6,v6)]:=by simp [f.ev h0,f.ev h1,f.ev h2,f.ev h3,f.ev h4,f.ev h5,f.ev h6]
theorem parts10 (f : Fr n a l) {i0 i1 i2 i3 i4 i5 i6 i7 i8 i9 : Nat} {x0 x1 x2 x3 x4 x5 x6 x7 x8 x9 : Operand} {v0 v1 v2 v3 v4 v5 v6 v7 v8 v9 : Value} (h0 : evl l x0 = some v0) (h1 : evl l x1 = some v1) (h2 : evl l x2 = some v2) (h3 : evl l x3 = some v3) (h4 : evl l x4 = some v4) (h5 : evl l x5 = some v5) (h6 : evl l x6 = some v6) (h7 : evl l x7 = some v7) (h8 : evl l x8 = some v8) (h9 : evl l x9 = some v9) : (#[(i0,x0),(i1,x1),(i2,x2),(i3,x3),(i4,x4),(i5,x5),(i6,x6),(i7,x7),(i8,x8),(i9,x9)].map fun (p : Nat × Operand)=>(p.1,a.eval p.2)).toList = [(i0,v0),(i1,v1),(i2,v2),(i3,v3),(i4,v4),(i5,v5),(i6,v6),(i7,v7),(i8,v8),(i9,v9)]:=by simp [f.ev h0,f.ev h1,f.ev h2,f.ev h3,f.ev h4,f.ev h5,f.ev h6,f.ev h7,f.ev h8,f.ev h9]
end
end Go.Hub
namespace Go.Hub
open Go.RowKit
theorem wantedN {ops : Array Oper} {a : Act} {dst : Option Nat} {op : Op} {ty : TypeId} {ps : String} {af : Array Edge} : Region.wanted ⟨dst,op,ty,ps,af,none⟩ (yielded ops a.tmps) = true:=rfl
theorem Fr.yes {n : Nat} {a : Act} {l : FL} {ops : Array Oper} (f : Fr n a l) {j dj : Nat} {b : Bool} {dst : Option Nat} {op : Op} {ty : TypeId} {ps : String} {af : Array Edge} (hj : (ops[j]?).bind (·.dst) = some dj) (hb : look l dj = some (.bool b)) :
    Region.wanted ⟨dst,op,ty,ps,af,some (j,b)⟩ (yielded ops a.tmps) = true:=by simp [Region.wanted,f.yield hj hb]
theorem Fr.noT {n : Nat} {a : Act} {l : FL} {ops : Array Oper} (f : Fr n a l) {j dj : Nat} {dst : Option Nat} {op : Op} {ty : TypeId} {ps : String} {af : Array Edge} (hj : (ops[j]?).bind (·.dst) = some dj) (hb : look l dj = some (.bool false)) :
    Region.wanted ⟨dst,op,ty,ps,af,some (j,true)⟩ (yielded ops a.tmps) = false:=by simp [Region.wanted,f.yield hj hb]
theorem Fr.noU {n : Nat} {a : Act} {l : FL} {ops : Array Oper} (f : Fr n a l) {j dj : Nat} {b : Bool} {dst : Option Nat} {op : Op} {ty : TypeId} {ps : String} {af : Array Edge} (hj : (ops[j]?).bind (·.dst) = some dj) (hb : look l dj = some undef) :
    Region.wanted ⟨dst,op,ty,ps,af,some (j,b)⟩ (yielded ops a.tmps) = false:=by
  have hy : yielded ops a.tmps j = none:=by
    unfold yielded;rw [hj];simp [f.slot dj _ hb,undef]
  simp [Region.wanted,hy]
theorem Fr.noF {n : Nat} {a : Act} {l : FL} {ops : Array Oper} (f : Fr n a l) {j dj : Nat} {dst : Option Nat} {op : Op} {ty : TypeId} {ps : String} {af : Array Edge} (hj : (ops[j]?).bind (·.dst) = some dj) (hb : look l dj = some (.bool true)) :
    Region.wanted ⟨dst,op,ty,ps,af,some (j,false)⟩ (yielded ops a.tmps) = false:=by simp [Region.wanted,f.yield hj hb]
theorem run_callV {P : Program} {a : Act} {w : World} {n : Nat} {l : FL} {fn : Nat} {x : Operand} {xs : Array Operand} {ats : Array TypeId} {dst : Option Nat} {ty : TypeId} {ps : String} {af : Array Edge} {g : Option (Nat × Bool)} {args cap : Array Value}
    (f : Fr n a l) (hf : evl l x = some (.func (.func fn) #[] cap)) (hc : ∀ args w,(callFunc fn args).run P w = .ok (.enter fn args) w) (hx : xs.map a.eval = args) :
    (execOp a.eval ⟨dst,.call { callee:=.value x,args:=xs,argTypes:=ats },ty,ps,af,g⟩).run P w = .ok (.enter fn (args ++ cap)) w:=by
  simp [execOp,resolve,f.ev hf,Deferred.ofValue,invoke,hx,hc]
theorem cv1_0 {P : Program} {a : Act} {w : World} {n : Nat} {l : FL} {fn : Nat} {x : Operand} {ats : Array TypeId} {dst : Option Nat} {ty : TypeId} {ps : String} {af : Array Edge} {g : Option (Nat × Bool)} {x0 : Operand} {v0 : Value} (f : Fr n a l) (hf : evl l x = some (.func (.func fn) #[] #[])) (hc : ∀ args w, (callFunc fn args).run P w = .ok (.enter fn args) w) (h0 : evl l x0 = some v0) :
    (execOp a.eval ⟨dst,.call { callee:=.value x,args:=#[x0],argTypes:=ats },ty,ps,af,g⟩).run P w = .ok (.enter fn #[v0]) w:=by
  have:=run_callV (dst:=dst) (ats:=ats) (ty:=ty) (ps:=ps) (af:=af) (g:=g) (w:=w) (xs:=#[x0]) f hf hc rfl
  simpa [f.ev h0] using this
theorem cv1_1 {P : Program} {a : Act} {w : World} {n : Nat} {l : FL} {fn : Nat} {x : Operand} {ats : Array TypeId} {dst : Option Nat} {ty : TypeId} {ps : String} {af : Array Edge} {g : Option (Nat × Bool)} {x0 : Operand} {v0 : Value} {c0 : Value} (f : Fr n a l) (hf : evl l x = some (.func (.func fn) #[] #[c0])) (hc : ∀ args w, (callFunc fn args).run P w = .ok (.enter fn args) w) (h0 : evl l x0 = some v0) :
    (execOp a.eval ⟨dst,.call { callee:=.value x,args:=#[x0],argTypes:=ats },ty,ps,af,g⟩).run P w = .ok (.enter fn #[v0,c0]) w:=by
  have:=run_callV (dst:=dst) (ats:=ats) (ty:=ty) (ps:=ps) (af:=af) (g:=g) (w:=w) (xs:=#[x0]) f hf hc rfl
  simpa [f.ev h0] using this
theorem cv2_0 {P : Program} {a : Act} {w : World} {n : Nat} {l : FL} {fn : Nat} {x : Operand} {ats : Array TypeId} {dst : Option Nat} {ty : TypeId} {ps : String} {af : Array Edge} {g : Option (Nat × Bool)} {x0 x1 : Operand} {v0 v1 : Value} (f : Fr n a l) (hf : evl l x = some (.func (.func fn) #[] #[])) (hc : ∀ args w, (callFunc fn args).run P w = .ok (.enter fn args) w) (h0 : evl l x0 = some v0) (h1 : evl l x1 = some v1) :
    (execOp a.eval ⟨dst,.call { callee:=.value x,args:=#[x0,x1],argTypes:=ats },ty,ps,af,g⟩).run P w = .ok (.enter fn #[v0,v1]) w:=by
  have:=run_callV (dst:=dst) (ats:=ats) (ty:=ty) (ps:=ps) (af:=af) (g:=g) (w:=w) (xs:=#[x0,x1]) f hf hc rfl
  simpa [f.ev h0,f.ev h1] using this
section
variable {w w' : World} {g : Nat} {t : TypeId} {cs : Array Value} {L : List Nat}
theorem Blk.cl (h : Blk w g t cs) {i : Nat} {v : Value} (hv : cs.toList[i]? = some v) : w.cell? ⟨g,i,none⟩ = some v:=h.cell_ (by simpa using hv)
theorem Blk.range (h : Blk w g t cs) : w.rangeAt g 0 cs.toList:=fun j v hv=>by
  rw [Nat.zero_add]
  exact h.cell_ (by simpa using hv)
theorem Blk.there (h : Blk w g t cs) {o n : Nat} (hn : o + n ≤ cs.size) : w.there g o n:=fun j hj=>by
  refine ⟨?_,h.frozen _⟩
  rw [h.cell]
  simp
  omega
structure Newb (w w' : World) (g : Nat) (t : TypeId) (cs : Array Value) : Prop where
  blk : Blk w' g t cs
  kept : Kept [] w w'
  lo : w.heap.size ≤ g
theorem newb (w : World) (t : TypeId) (cs : Array Value) : Newb w (w.alloc (.cells cs t)) w.heap.size t cs:=⟨Blk.new w t cs,(Kept.refl [] w).alloc _,Nat.le_refl _⟩
theorem setCells_blk (h : Blk w g t cs) (cs' : Array Value) (hs : cs'.size = cs.size) : Blk (w.setCells g 0 cs'.toList) g t cs':=by
  obtain ⟨cur,h1,h2,h3,h4⟩:=setCells_block g cs'.toList 0 w cs t (0,0) h
  have : cur = cs':=by
    apply Array.ext (by omega)
    intro i hi hi';have:=h4 i cs'[i] (by simp [hi']) (by omega);rw [Nat.zero_add] at this;rw [Array.getElem?_eq_getElem hi] at this
    simpa using this
  rw [this] at h1;exact h1
theorem setCells_kept (w : World) (g o : Nat) (vs : List Value) : Kept [g] w (w.setCells g o vs):=by
  obtain ⟨b1,b2,b3,b4⟩:=setCells_facts g vs o w;exact ⟨b1,b2,b3,by omega,fun k hk hn=>setCells_other g _ _ w k (by simpa using hn)⟩
theorem setCell_kept (w : World) (g o : Nat) (v : Value) : Kept [g] w (w.setCell ⟨g,o,none⟩ v):=(Kept.refl [g] w).setCell (p:=⟨g,o,none⟩) (by simp) v
end
section
variable {P : Program} {ops : Array Oper} {rest : List Oper} {a : Act} {w : World} {Q : Exit → Act → World → Prop} {n d : Nat} {l : FL} {v : Value} {dst : Option Nat} {ty : TypeId} {ps : String} {af : Array Edge} {gd : Option (Nat × Bool)} {x y : Operand} {t : TypeId}
theorem L.alloc (f : Fr n a l) (hw : Region.wanted ⟨some d, .alloc t, ty, ps, af, gd⟩ (yielded ops a.tmps) = true) (hn : d < n) {z : Value} (hz : ∀ w, (zeroValue t).run P w = .ok z w) {cs : Array Value} (hcs : z.cells = cs)
    (hK : ∀ a' w' g,Newb w w' g t cs → Fr n a' ((d,.pointer (some ⟨g,0,none⟩)) :: l) → wpList P ops Q rest a' w') : wpList P ops Q (⟨some d,.alloc t,ty,ps,af,gd⟩ :: rest) a w:=
  L.val f hw rfl hn (E.alloc f hz) fun a' f'=>hK a' _ _ (hcs ▸ newb w t _) f'
theorem L.box (f : Fr n a l) (hw : Region.wanted ⟨some d, .box t x, ty, ps, af, gd⟩ (yielded ops a.tmps) = true) (hn : d < n) (hx : evl l x = some v) {cs : Array Value} (hcs : v.cells = cs)
    (hK : ∀ a' w' g,Newb w w' g t cs → Fr n a' ((d,.pointer (some ⟨g,0,none⟩)) :: l) → wpList P ops Q rest a' w') : wpList P ops Q (⟨some d,.box t x,ty,ps,af,gd⟩ :: rest) a w:=
  L.val f hw rfl hn (E.box f hx) fun a' f'=>hK a' _ _ (hcs ▸ newb w t _) f'
theorem L.store (f : Fr n a l) (hw : Region.wanted ⟨none, .store t x y, ty, ps, af, gd⟩ (yielded ops a.tmps) = true) (hi : (P.info? t).map (·.size) = some 1) {g o : Nat} {e : TypeId} {cs : Array Value} (hx : evl l x = some (.pointer (some ⟨g, o, none⟩))) (hy : evl l y = some v) (h1 : v.oneCell' = true)
    (B : Blk w g e cs) (ho : o < cs.size) (hK : ∀ a' w',Fr n a' l → Blk w' g e (cs.setIfInBounds o v) → Kept [g] w w' → wpList P ops Q rest a' w') : wpList P ops Q (⟨none,.store t x y,ty,ps,af,gd⟩ :: rest) a w:=
  L.act f hw rfl (E.store f hi hx hy h1 (B.cell_ (Array.getElem?_eq_getElem ho)) (B.frozen o)) fun a' f'=>hK a' _ f' (B.set_ o v) (setCell_kept w g o v)
theorem L.storeR (f : Fr n a l) (hw : Region.wanted ⟨none, .store t x y, ty, ps, af, gd⟩ (yielded ops a.tmps) = true) {g : Nat} {e : TypeId} {cs cs' : Array Value} {s : Nat} (hi : (P.info? t).map (·.size) = some s) (hx : evl l x = some (.pointer (some ⟨g, 0, none⟩))) (hy : evl l y = some (.agg cs')) (h1 : cs'.toList.all (·.oneCell') = true)
    (B : Blk w g e cs) (hs : cs'.size = cs.size) (hl : cs'.size = s) (hK : ∀ a' w',Fr n a' l → Blk w' g e cs' → Kept [g] w w' → wpList P ops Q rest a' w') : wpList P ops Q (⟨none,.store t x y,ty,ps,af,gd⟩ :: rest) a w:=
  L.act f hw rfl (E.storeR f (hl ▸ hi) hx hy (by simpa using h1) (B.there (by omega))) fun a' f'=>hK a' _ f' (setCells_blk B cs' hs) (setCells_kept w g 0 _)
theorem E.loadB (f : Fr n a l) {g : Nat} {e : TypeId} {cs : Array Value} {d : TypeDesc} {s : Nat} (ht : P.underlying t = some d) (hd : d.isRow = true) (hi : (P.info? t).map (·.size) = some s) (hx : evl l x = some (.pointer (some ⟨g, 0, none⟩))) (B : Blk w g e cs) (hl : cs.size = s) :
    (execOp a.eval ⟨dst,.load t x,ty,ps,af,gd⟩).run P w = .ok (.value (.agg cs)) w:=by
  have:=E.loadR (P:=P) (w:=w) (dst:=dst) (ty:=ty) (ps:=ps) (af:=af) (g:=gd) (t:=t) f ht hd (cs:=cs.toList) hi hx B.range (by simpa using hl)
  simpa using this
end
end Go.Hub
namespace Go.Hub
open Go.RowKit
def Sl (w : World) (A : Option Addr) (n size : Nat) (xs : List Value) : Prop:=
  xs.length = n * size ∧ (0 < n → ∃ b off,A = some ⟨b,off,none⟩ ∧ b < w.heap.size ∧ ∀ j u,xs[j]? = some u → w.cell? ⟨b,off + j,none⟩ = some u)
def Far (A : Option Addr) (L : List Nat) : Prop:=∀ a,A = some a → a.block ∉ L
section
variable {w w' : World} {A : Option Addr} {n size : Nat} {xs : List Value} {L : List Nat}
theorem Sl.nil (w : World) (A : Option Addr) (size : Nat) : Sl w A 0 size []:=⟨by simp,fun h=>absurd h (by omega)⟩
theorem Sl.keptF (h : Sl w A n size xs) (hk : Kept L w w') (hf : Far A L) : Sl w' A n size xs:=
  ⟨h.1,fun hn=>by
    obtain ⟨b,off,e,hb,hc⟩:=h.2 hn
    refine ⟨b,off,e,Nat.lt_of_lt_of_le hb hk.size,fun j u hu=>?_⟩
    rw [hk.cell (p:=⟨b,off + j,none⟩) hb (hf ⟨b,off,none⟩ e)]
    exact hc j u hu⟩
theorem Far.nil (A : Option Addr) : Far A []:=fun _ _=>by simp
theorem Sl.kept (h : Sl w A n size xs) (hk : Kept [] w w') : Sl w' A n size xs:=h.keptF hk (Far.nil A)
theorem Sl.of_own {e : TypeId} {c : Nat} (h : Own w e size (.slice A n c) n xs) : Sl w A n size xs:=by
  refine ⟨h.1,fun hn=>?_⟩
  rcases h.2 with ⟨_,h0⟩ | ⟨g,off,cap,cur,hv,hg,_,_,_,hc⟩
  · omega
  · injection hv with hA
    refine ⟨g,off,hA,(Array.getElem?_eq_some_iff.1 hg).1,fun j x hx=>?_⟩;rw [cell_of_row w g _ cur e (0,0) hg];exact hc j _ hx
theorem Sl.rds (h : Sl w A n size xs) : Rds w w.heap.size size A n xs:=⟨h.1,h.2⟩
theorem Sl.of_rds (h : Rds w w.heap.size size A n xs) : Sl w A n size xs:=⟨h.1,h.2⟩
theorem Sl.addr (h : Sl w A n size xs) (hn : 0 < n) : ∃ b off,A = some ⟨b,off,none⟩:=by
  obtain ⟨b,off,e,_⟩:=h.2 hn;exact ⟨b,off,e⟩
theorem Sl.cell (h : Sl w A n size xs) {b off j : Nat} {u : Value} (hn : 0 < n) (hA : A = some ⟨b,off,none⟩) (hu : xs[j]? = some u) : w.cell? ⟨b,off + j,none⟩ = some u:=by
  obtain ⟨b',off',e,_,hc⟩:=h.2 hn;rw [hA] at e
  injection e with e
  injection e with e1 e2
  subst e1 e2;exact hc j u hu
theorem Sl.row (h : Sl w A n size xs) {b off i : Nat} {cs : List Value} (hn : 0 < n) (hA : A = some ⟨b,off,none⟩) (hu : ∀ j u,cs[j]? = some u → xs[i * size + j]? = some u) : w.rangeAt b (off + i * size) cs:=fun j u hj=>by
  rw [Nat.add_assoc]
  exact h.cell hn hA (hu j u hj)
end
section
variable {P : Program} {a : Act} {w : World} {n : Nat} {l : FL} {dst : Option Nat} {ty : TypeId} {ps : String} {af : Array Edge} {g : Option (Nat × Bool)} {x y : Operand} {t : TypeId}
theorem E.indexA (f : Fr n a l) {e : TypeId} {A : Option Addr} {b o m c s : Nat} {k : IntKind} {i : Int} (hA : A = some ⟨b, o, none⟩) (ht : P.underlying t = some (.slice e)) (hs : (P.info? e).map (·.size) = some s) (hx : evl l x = some (.slice A m c)) (hy : evl l y = some (.int k i))
    (h0 : 0 ≤ i) (h1 : i < m) : (execOp a.eval ⟨dst,.indexAddr t x y,ty,ps,af,g⟩).run P w = .ok (.value (.pointer (some ⟨b,o + i.toNat * s,none⟩))) w:=by
  subst hA;exact E.indexAddr f ht hs hx hy h0 h1
theorem E.makeFunc1 (f : Fr n a l) {fn : Fn} {v : Value} (hx : evl l x = some v) : (execOp a.eval ⟨dst,.makeFunc fn #[] #[x],ty,ps,af,g⟩).run P w = .ok (.value (.func fn #[] #[v])) w:=by simp [execOp,Instr.makeFunc,f.ev hx]
end
section
variable {M : Type} (cell : M → List Value) (size : Nat) (hs : ∀ m,(cell m).length = size)
include hs
theorem flat_len (l : List M) : (l.flatMap cell).length = l.length * size:=by
  induction l with
  | nil=>simp
  | cons a r ih=>simp [ih,hs,Nat.add_mul]; omega
theorem flat_at (l : List M) (i : Nat) (m : M) (h : l[i]? = some m) (j : Nat) (u : Value) (hu : (cell m)[j]? = some u) : (l.flatMap cell)[i * size + j]? = some u:=by
  induction l generalizing i with
  | nil=>simp at h
  | cons a r ih=>
    have hj : j < size:=by
      have:=(List.getElem?_eq_some_iff.1 hu).1
      rwa [hs] at this
    match i with
    | 0=>
      simp at h;subst h;simp only [List.flatMap_cons,Nat.zero_mul,Nat.zero_add];rw [List.getElem?_append_left (by rw [hs]; exact hj)];exact hu
    | i + 1=>
      have:=ih i (by simpa using h);simp only [List.flatMap_cons];rw [List.getElem?_append_right (by rw [hs,Nat.add_mul]; omega),hs,Nat.add_mul,Nat.one_mul];rw [show i * size + size + j - size = i * size + j from by omega];exact this
end
end Go.Hub
namespace Go.Hub
open Go.RowKit
structure Dt where
  node : Int
  epoch : Int
  n : Int
deriving DecidableEq
abbrev dcell (d : Dt) : List Value:=[.int .i64 d.node,.int .i64 d.epoch,.int .i64 d.n]
def dcells (l : List Dt) : List Value:=l.flatMap dcell
theorem dcells_len (l : List Dt) : (dcells l).length = l.length * 3:=flat_len dcell 3 (fun _=>rfl) l
theorem dcells_at (l : List Dt) (i : Nat) (d : Dt) (h : l[i]? = some d) : ∀ j u,(dcell d)[j]? = some u → (dcells l)[i * 3 + j]? = some u:=fun j u hu=>flat_at dcell 3 (fun _=>rfl) l i d h j u hu
theorem dcells_one (l : List Dt) : ∀ u ∈ dcells l,u.oneCell' = true:=fun u hu=>by
  unfold dcells at hu
  simp at hu
  obtain ⟨d,_,rfl | rfl | rfl⟩:=hu <;> rfl
def Ds (w : World) (A : Option Addr) (l : List Dt) : Prop:=Sl w A l.length 3 (dcells l)
section
variable {w w' : World} {A : Option Addr} {l : List Dt} {L : List Nat}
theorem Ds.kept (h : Ds w A l) (hk : Kept [] w w') : Ds w' A l:=Sl.kept h hk
theorem Ds.row (h : Ds w A l) {b off i : Nat} {d : Dt} (hA : A = some ⟨b,off,none⟩) (hd : l[i]? = some d) : w.rangeAt b (off + i * 3) (dcell d):=
  Sl.row h (by have:=(List.getElem?_eq_some_iff.1 hd).1; omega) hA (dcells_at l i d hd)
theorem Ds.addr (h : Ds w A l) {i : Nat} (hi : i < l.length) : ∃ b off,A = some ⟨b,off,none⟩:=Sl.addr h (by omega)
theorem Ds.nil (w : World) (A : Option Addr) : Ds w A []:=Sl.nil w A 3
end
def cmpI (x y : Int) : Int:=if x < y then -1 else if y < x then 1 else 0
def livesI (a b : Dt) : Int:=if cmpI a.node b.node = 0 then cmpI a.epoch b.epoch else cmpI a.node b.node
def mayB (d : Dt) : Bool:=decide (0 ≤ d.node) && decide (d.node < 16) && decide (1 ≤ d.epoch) && decide (1 ≤ d.n)
def nextOk (p : Option Dt) (d : Dt) : Bool:=match p with | none=>true | some q=>decide (livesI q d < 0)
def rightFrom : Option Dt → List Dt → Bool
  | _,[]=>true
  | p,d :: r=>mayB d && nextOk p d && rightFrom (some d) r
def rightB (l : List Dt) : Bool:=rightFrom none l
def topI (l : List Dt) (node epoch : Int) : Int:=match l.find? fun x=>decide (x.node = node) && decide (x.epoch = epoch) with | some x=>x.n | none=>0
def prevD (l : List Dt) (k : Nat) : Option Dt:=if k = 0 then none else l[k - 1]?
theorem right_step (l : List Dt) (k : Nat) (d : Dt) (h : l[k]? = some d) : rightFrom (prevD l k) (l.drop k) = (mayB d && nextOk (prevD l k) d && rightFrom (prevD l (k + 1)) (l.drop (k + 1))):=by
  have hk:=(List.getElem?_eq_some_iff.1 h).1;rw [List.drop_eq_getElem_cons hk];have e : l[k] = d:=by rw [List.getElem?_eq_getElem hk] at h; simpa using h
  rw [e];have e2 : prevD l (k + 1) = some d:=by simp [prevD,h]
  rw [e2]
  rfl
theorem prev_none {l : List Dt} {k : Nat} (d : Dt) (h : k = 0) : nextOk (prevD l k) d = true:=by subst h; rfl
theorem prev_some {l : List Dt} {k : Nat} {q : Dt} (d : Dt) (h : 0 < k) (hq : l[Int.toNat ((k : Int) - 1)]? = some q) : nextOk (prevD l k) d = decide (livesI q d < 0):=by
  have e : Int.toNat ((k : Int) - 1) = k - 1:=by omega
  rw [e] at hq;unfold prevD;rw [if_neg (by omega),hq]
  rfl
end Go.Hub
namespace Go.Hub
def lt2 (a b : Dt) : Prop:=a.node < b.node ∨ (a.node = b.node ∧ a.epoch < b.epoch)
instance (a b : Dt) : Decidable (lt2 a b):=by unfold lt2; exact inferInstance
theorem lives_lt (a b : Dt) : livesI a b < 0 ↔ lt2 a b:=by
  unfold livesI cmpI lt2
  repeat' split
  all_goals omega
theorem lives_ge (a b : Dt) : 0 ≤ livesI a b ↔ ¬ lt2 a b:=by
  rw [← lives_lt]; omega
theorem lives_eq (a b : Dt) : livesI a b = 0 ↔ a.node = b.node ∧ a.epoch = b.epoch:=by
  unfold livesI cmpI
  repeat' split
  all_goals omega
theorem lt2_trans {a b c : Dt} (h : lt2 a b) (k : lt2 b c) : lt2 a c:=by unfold lt2 at *; omega
def Rises (l : List Dt) : Prop:=(∀ (i j : Nat) (a b : Dt),i < j → l[i]? = some a → l[j]? = some b → lt2 a b) ∧ ∀ a ∈ l,mayB a = true
theorem rises_from : ∀ (l : List Dt) (p : Option Dt),rightFrom p l = true → Rises l ∧ ∀ q,p = some q → ∀ a ∈ l,lt2 q a:=by
  intro l
  induction l with
  | nil=>intro p _; exact ⟨⟨fun i j a b _ h=>by simp at h,fun a h=>by simp at h⟩,fun q _ a h=>by simp at h⟩
  | cons d r ih=>
    intro p h;simp only [rightFrom,Bool.and_eq_true] at h;obtain ⟨⟨h1,h2⟩,h3⟩:=h;obtain ⟨⟨i1,i2⟩,i3⟩:=ih _ h3;have hd:=i3 d rfl;refine ⟨⟨fun i j a b hij ha hb=>?_,fun a ha=>?_⟩,fun q hq a ha=>?_⟩
    · match i,j,hij with
      | 0,j + 1,_=>
        simp at ha hb;subst ha;exact hd b (List.mem_of_getElem? hb)
      | i + 1,j + 1,hij=>exact i1 i j a b (by omega) (by simpa using ha) (by simpa using hb)
    · rcases List.mem_cons.1 ha with rfl | ha
      · exact h1
      exact i2 a ha
    subst hq
    have hq : lt2 q d:=by
      simp only [nextOk,decide_eq_true_eq] at h2;exact (lives_lt _ _).1 h2
    rcases List.mem_cons.1 ha with rfl | ha
    · exact hq
    exact lt2_trans hq (hd a ha)
theorem rises {l : List Dt} (h : rightB l = true) : Rises l:=(rises_from l none h).1
theorem topI_some {l : List Dt} (h : rightB l = true) {i : Nat} {x : Dt} (hx : l[i]? = some x) : topI l x.node x.epoch = x.n:=by
  have hr:=rises h;unfold topI
  have hf : l.find? (fun y=>decide (y.node = x.node) && decide (y.epoch = x.epoch)) = some x:=by
    rw [List.find?_eq_some_iff_getElem];refine ⟨by simp,i,(List.getElem?_eq_some_iff.1 hx).1,(List.getElem?_eq_some_iff.1 hx).2,fun j hj=>?_⟩;have hjl : j < l.length:=by have:=(List.getElem?_eq_some_iff.1 hx).1; omega
    have:=hr.1 j i l[j] x hj (List.getElem?_eq_getElem hjl) hx;unfold lt2 at this
    simp
    omega
  rw [hf]
theorem topI_none {l : List Dt} {node epoch : Int} (h : ∀ x ∈ l,¬ (x.node = node ∧ x.epoch = epoch)) : topI l node epoch = 0:=by
  unfold topI
  have hf : l.find? (fun y=>decide (y.node = node) && decide (y.epoch = epoch)) = none:=by
    rw [List.find?_eq_none];intro x hx;have:=h x hx
    simpa using this
  rw [hf]
structure Srch (l : List Dt) (d : Dt) (i : Nat) (b : Bool) : Prop where
  le : i ≤ l.length
  lo : ∀ (j : Nat) a,j < i → l[j]? = some a → lt2 a d
  hi : ∀ (j : Nat) a,i ≤ j → l[j]? = some a → ¬ lt2 a d
  is : b = true ↔ ∃ a,l[i]? = some a ∧ a.node = d.node ∧ a.epoch = d.epoch
theorem Srch.top {l : List Dt} {d : Dt} {i : Nat} (hr : Rises l) (h : Srch l d i false) : topI l d.node d.epoch = 0:=by
  refine topI_none fun x hx hh=>?_;obtain ⟨j,hj,he⟩:=List.getElem_of_mem hx;have hj' : l[j]? = some x:=by rw [List.getElem?_eq_getElem hj,he]
  have hle : i ≤ j:=by
    rcases Nat.lt_or_ge j i with h1 | h1
    · have := h.lo j x h1 hj'
      unfold lt2 at this;omega
    exact h1
  rcases Nat.lt_or_ge i j with h2 | h2
  · have hi' : i < l.length := by omega
    have h3:=h.hi i l[i] (Nat.le_refl _) (List.getElem?_eq_getElem hi');have h4:=hr.1 i j l[i] x h2 (List.getElem?_eq_getElem hi') hj'
    exfalso
    unfold lt2 at h3 h4;omega
  obtain rfl : i = j:=by omega
  have:=h.is.2 ⟨x,hj',hh⟩;cases this
theorem Srch.is_top {l : List Dt} {d : Dt} {i : Nat} (hr : rightB l = true) (h : Srch l d i true) : ∃ a,l[i]? = some a ∧ a.n = topI l d.node d.epoch:=by
  obtain ⟨a,h1,h2,h3⟩:=h.is.1 rfl;exact ⟨a,h1,by rw [← h2,← h3,topI_some hr h1]⟩
structure Half (l : List Dt) (d : Dt) (i j : Nat) : Prop where
  ij : i ≤ j
  jn : j ≤ l.length
  lo : ∀ (k : Nat) a,k < i → l[k]? = some a → lt2 a d
  hi : ∀ (k : Nat) a,j ≤ k → l[k]? = some a → ¬ lt2 a d
theorem Half.start (l : List Dt) (d : Dt) : Half l d 0 l.length:=⟨Nat.zero_le _,Nat.le_refl _,fun k a h=>by omega,fun k a h hk=>by have:=(List.getElem?_eq_some_iff.1 hk).1; omega⟩
theorem Half.right {l : List Dt} {d a : Dt} {i j h : Nat} (H : Half l d i j) (hr : Rises l) (h1 : i ≤ h) (h2 : h < j) (ha : l[h]? = some a) (hl : lt2 a d) : Half l d (h + 1) j:=
  ⟨by omega,H.jn,fun k b hk hb=>by
    rcases Nat.lt_or_ge k h with h3 | h3
    · exact lt2_trans (hr.1 k h b a h3 hb ha) hl
    obtain rfl : k = h:=by omega
    rw [ha] at hb
    cases hb
    exact hl,H.hi⟩
theorem Half.left {l : List Dt} {d a : Dt} {i j h : Nat} (H : Half l d i j) (hr : Rises l) (h1 : i ≤ h) (h2 : h < j) (ha : l[h]? = some a) (hl : ¬ lt2 a d) : Half l d i h:=
  ⟨h1,by have:=H.jn; omega,H.lo,fun k b hk hb hlt=>by
    rcases Nat.lt_or_ge h k with h3 | h3
    · exact hl (lt2_trans (hr.1 h k a b h3 ha hb) hlt)
    obtain rfl : k = h:=by omega
    rw [ha] at hb
    cases hb
    exact hl hlt⟩
theorem Half.found {l : List Dt} {d : Dt} {i : Nat} {b : Bool} (H : Half l d i i) (hb : b = true ↔ ∃ a,l[i]? = some a ∧ a.node = d.node ∧ a.epoch = d.epoch) : Srch l d i b:=⟨H.jn,H.lo,H.hi,hb⟩
theorem Half.found1 {l : List Dt} {d m : Dt} {i : Nat} (H : Half l d i i) (hd : l[i]? = some m) : Srch l d i (decide (livesI m d = 0)):=H.found (by
  rw [decide_eq_true_iff,lives_eq]
  constructor
  · intro h; exact ⟨m,hd,h⟩
  rintro ⟨a,ha,h⟩
  rw [hd] at ha
  cases ha
  exact h)
theorem Half.found0 {l : List Dt} {d : Dt} {i : Nat} (H : Half l d i i) (hd : l[i]? = none) : Srch l d i false:=H.found (by simp [hd])
def pairB (x y : Int) : Bool:=decide (0 ≤ x) && decide (x < 16) && decide (1 ≤ y)
theorem mayB_pair (d : Dt) : mayB d = (pairB d.node d.epoch && decide (1 ≤ d.n)):=rfl
theorem prev_some2 {l : List Dt} {k : Nat} {q : Dt} (d : Dt) (h : 0 < k) (hq : l[Int.toNat ((k : Int) - 1)]? = some q) : nextOk (prevD l k) d = decide (lt2 q d):=by
  rw [prev_some d h hq];exact decide_eq_decide.2 (lives_lt q d)
theorem topI_at {l : List Dt} (h : rightB l = true) {i : Nat} {d : Dt} {x y : Int} (hd : l[i]? = some d) (hx : d.node = x) (hy : d.epoch = y) : topI l x y = d.n:=by
  subst hx hy;exact topI_some h hd
theorem in_take {l : List Dt} {P : Dt → Prop} {k : Nat} {d : Dt} (h : ∀ x ∈ l.take k,P x) (hd : l[k]? = some d) (hp : P d) : ∀ x ∈ l.take (k + 1),P x:=by
  intro x hx;rw [List.take_succ,hd] at hx;simp at hx
  rcases hx with hx | rfl
  · exact h x hx
  exact hp
theorem all_take {l : List Dt} {P : Dt → Prop} {k : Nat} (h : ∀ x ∈ l.take k,P x) (hk : l.length ≤ k) : ∀ x ∈ l,P x:=by
  rw [List.take_of_length_le hk] at h;exact h
def topR (l : List Dt) (x y : Int) : Int:=if rightB l then topI l x y else 0
def hasB (l : List Dt) (d : Dt) : Bool:=decide (1 ≤ d.n) && decide (d.n ≤ topR l d.node d.epoch)
def insD : List Dt → Dt → List Dt
  | [],d=>[d]
  | x :: r,d=>if lt2 x d then x :: insD r d else if lt2 d x then d :: x :: r else { x with n:=d.n } :: r
def addD (l : List Dt) (d : Dt) : List Dt:=if rightB l = false then [] else if mayB d = false ∨ hasB l d = true then l else insD l d
theorem insD_at : ∀ (l : List Dt) (d : Dt) (k : Nat), (∀ x ∈ l.take k, lt2 x d) → (∀ x, l[k]? = some x → ¬ lt2 x d) → k ≤ l.length →
    insD l d = (match l[k]? with | some x=>if lt2 d x then l.take k ++ d :: l.drop k else l.set k { x with n:=d.n } | none=>l ++ [d]):=by
  intro l
  induction l with
  | nil=>intro d k _ _ hk; simp at hk; subst hk; simp [insD]
  | cons x r ih=>
    intro d k h1 h2 hk
    match k with
    | 0=>
      have:=h2 x (by simp);simp only [insD,if_neg this]
      simp
    | k + 1=>
      have hx : lt2 x d:=h1 x (by simp);have:=ih d k (fun y hy=>h1 y (by simp [hy])) (fun y hy=>h2 y (by simpa using hy)) (by simpa using hk);simp only [insD,if_pos hx,this];simp only [List.getElem?_cons_succ]
      split
      · split <;> simp
      simp
theorem dcells_append (a b : List Dt) : dcells (a ++ b) = dcells a ++ dcells b:=by simp [dcells]
theorem dcells_take (l : List Dt) (k : Nat) : (dcells l).take (k * 3) = dcells (l.take k):=by
  induction l generalizing k with
  | nil=>simp [dcells]
  | cons x r ih=>
    match k with
    | 0=>simp [dcells]
    | k + 1=>
      have:=ih k;simp only [dcells,List.flatMap_cons,List.take_succ_cons] at this ⊢;rw [show (k + 1) * 3 = k * 3 + 1 + 1 + 1 by omega,← this]
      rfl
theorem dcells_drop (l : List Dt) (k : Nat) : (dcells l).drop (k * 3) = dcells (l.drop k):=by
  induction l generalizing k with
  | nil=>simp [dcells]
  | cons x r ih=>
    match k with
    | 0=>simp [dcells]
    | k + 1=>
      have:=ih k;simp only [dcells,List.flatMap_cons,List.drop_succ_cons] at this ⊢;rw [show (k + 1) * 3 = k * 3 + 1 + 1 + 1 by omega,← this]
      rfl
theorem dcells_set : ∀ (l : List Dt) (k : Nat) (x : Dt) (m : Int), l[k]? = some x → (dcells l).set (k * 3 + 2) (.int .i64 m) = dcells (l.set k { x with n := m })
  | [],_,_,_,h=>by simp at h
  | y :: r,0,x,m,h=>by
    simp at h
    subst h
    rfl
  | y :: r,k + 1,x,m,h=>by
    have:=dcells_set r k x m (by simpa using h)
    simp only [dcells,List.flatMap_cons,List.set_cons_succ] at this ⊢
    rw [← this,show (k + 1) * 3 + 2 = (k * 3 + 2) + 3 by omega]
    rfl
end Go.Hub
namespace Go.Hub
theorem dNext {p : Option Dt} {d : Dt} : nextOk p d = true ↔ ∀ q,p = some q → lt2 q d:=by
  cases p with
  | none=>simp [nextOk]
  | some q=>simp only [nextOk,decide_eq_true_eq,lives_lt]; simp
theorem dInsRight : ∀ (l : List Dt) (p : Option Dt) (d : Dt), rightFrom p l = true → mayB d = true → (∀ q, p = some q → lt2 q d) → rightFrom p (insD l d) = true
  | [],p,d,_,hd,hp=>by simp [insD,rightFrom,hd,dNext.2 hp]
  | x :: r,p,d,h,hd,hp=>by
    simp only [rightFrom,Bool.and_eq_true] at h;obtain ⟨⟨h1,h2⟩,h3⟩:=h;unfold insD
    split
    · rename_i hx
      simp only [rightFrom,h1,h2,Bool.true_and];exact dInsRight r (some x) d h3 hd (fun q hq=>by injection hq with hq; subst hq; exact hx)
    split
    · rename_i hx
      simp only [rightFrom,hd,h1,h3,dNext.2 hp,Bool.true_and,Bool.and_true];exact dNext.2 fun q hq=>by injection hq with hq; subst hq; exact hx
    have e1 : mayB { x with n:=d.n } = true:=by
      simp only [mayB,Bool.and_eq_true,decide_eq_true_eq] at h1 hd ⊢;omega
    have e2 : nextOk p { x with n:=d.n } = true:=dNext.2 fun q hq=>dNext.1 h2 q hq;simp only [rightFrom,e1,e2,Bool.true_and]
    cases r with
    | nil=>rfl
    | cons y r=>
      simp only [rightFrom,Bool.and_eq_true] at h3 ⊢;exact ⟨⟨h3.1.1,dNext.2 fun q hq=>by injection hq with hq; subst hq; exact dNext.1 h3.1.2 x rfl⟩,h3.2⟩
theorem dAddRight {l : List Dt} (h : rightB l = true) (d : Dt) : rightB (addD l d) = true:=by
  unfold addD;rw [if_neg (by simp [h])]
  split
  · exact h
  rename_i hn
  exact dInsRight l none d h (by cases hm : mayB d <;> simp_all) (fun q hq=>by cases hq)
def key (d : Dt) (x y : Int) : Bool:=decide (d.node = x) && decide (d.epoch = y)
theorem topI_cons (d : Dt) (r : List Dt) (x y : Int) : topI (d :: r) x y = if key d x y = true then d.n else topI r x y:=by
  unfold topI key;rw [List.find?_cons]
  cases h : (decide (d.node = x) && decide (d.epoch = y)) <;> simp
theorem key_iff {d : Dt} {x y : Int} : key d x y = true ↔ d.node = x ∧ d.epoch = y:=by simp [key]
theorem topI_ins : ∀ (l : List Dt) (d : Dt) (x y : Int), topI (insD l d) x y = if key d x y = true then d.n else topI l x y
  | [],d,x,y=>by rw [insD,topI_cons]
  | a :: r,d,x,y=>by
    unfold insD
    split
    · rename_i h
      rw [topI_cons,topI_cons,topI_ins r d x y]
      by_cases h1 : key a x y = true
      · rw [if_pos h1, if_pos h1]
        rw [if_neg];intro h2;rw [key_iff] at h1 h2;unfold lt2 at h;omega
      rw [if_neg h1,if_neg h1]
    split
    · rw [topI_cons]
    rename_i h1 h2
    have he : key { a with n:=d.n } x y = key d x y:=by
      have : a.node = d.node ∧ a.epoch = d.epoch:=by unfold lt2 at h1 h2; omega
      unfold key;simp [this.1,this.2]
    rw [topI_cons,topI_cons,he]
    by_cases h3 : key d x y = true
    · rw [if_pos h3,if_pos h3]
    rw [if_neg h3,if_neg h3,if_neg];intro h4
    apply h3
    rw [← he];exact h4
theorem may_of {d : Dt} (h : mayB d = true) : 0 ≤ d.node ∧ d.node < 16 ∧ 1 ≤ d.epoch ∧ 1 ≤ d.n:=by
  simp only [mayB,Bool.and_eq_true,decide_eq_true_eq] at h;omega
theorem topI_pos {l : List Dt} (h : rightB l = true) (x y : Int) : 0 ≤ topI l x y:=by
  have hr:=rises h
  rcases hf : l.find? (fun z=>decide (z.node = x) && decide (z.epoch = y)) with _ | z
  · unfold topI; rw [hf]; exact Int.le_refl _
  unfold topI; rw [hf];have:=may_of (hr.2 z (List.mem_of_find?_eq_some hf));show 0 ≤ z.n;omega
theorem topI_add {l : List Dt} (h : rightB l = true) {d : Dt} (hd : mayB d = true) (x y : Int) : topI (addD l d) x y = if key d x y = true then Max.max (topI l x y) d.n else topI l x y:=by
  have hn:=may_of hd;unfold addD;rw [if_neg (by simp [h])]
  by_cases hh : hasB l d = true
  · rw [if_pos (.inr hh)]
    simp only [hasB,Bool.and_eq_true,decide_eq_true_eq,topR,h,if_true] at hh
    by_cases hk : key d x y = true
    · rw [if_pos hk]
      rw [key_iff] at hk;rw [hk.1,hk.2] at hh;omega
    rw [if_neg hk]
  rw [if_neg (fun h1=>h1.elim (fun h1=>by rw [hd] at h1; cases h1) hh),topI_ins]
  by_cases hk : key d x y = true
  · rw [if_pos hk, if_pos hk]
    rw [key_iff] at hk
    have : ¬ d.n ≤ topI l x y:=fun hc=>hh (by
      simp only [hasB,Bool.and_eq_true,decide_eq_true_eq,topR,h,if_true,hk.1,hk.2]
      exact ⟨hn.2.2.2,hc⟩)
    omega
  rw [if_neg hk,if_neg hk]
theorem topI_out {l : List Dt} {x y : Int} (h : ∀ d ∈ l,key d x y = false) : topI l x y = 0:=topI_none fun d hd he=>by
  have:=h d hd
  rw [← Bool.not_eq_true,key_iff] at this
  exact this he
theorem topI_fold : ∀ (b : List Dt) (p : Option Dt) (a : List Dt), rightB a = true → rightFrom p b = true → rightB (b.foldl addD a) = true ∧ ∀ x y, topI (b.foldl addD a) x y = Max.max (topI a x y) (topI b x y)
  | [],_,a,ha,_=>⟨ha,fun x y=>by
    have:=topI_pos ha x y
    have h0 : topI [] x y = 0:=rfl
    rw [h0]
    show topI a x y = _
    omega⟩
  | d :: r,p,a,ha,hb=>by
    have hb0:=hb
    simp only [rightFrom,Bool.and_eq_true] at hb
    obtain ⟨⟨h1,h2⟩,h3⟩:=hb
    obtain ⟨i1,i2⟩:=topI_fold r (some d) (addD a d) (dAddRight ha d) h3
    refine ⟨i1,fun x y=>?_⟩
    show topI (r.foldl addD (addD a d)) x y = _
    rw [i2 x y,topI_add ha h1,topI_cons]
    by_cases hk : key d x y = true
    · have h0 : topI r x y = 0:=topI_out fun z hz=>by
        have:=(rises_from r (some d) h3).2 d rfl z hz
        rw [key_iff] at hk
        rw [← Bool.not_eq_true,key_iff]
        unfold lt2 at this
        omega
      have:=topI_pos ha x y
      have:=may_of h1
      rw [if_pos hk,if_pos hk,h0]
      omega
    rw [if_neg hk,if_neg hk]
def joinD (a b : List Dt) : List Dt:=if rightB a = true ∧ rightB b = true then b.foldl addD a else []
theorem join_right {a b : List Dt} (ha : rightB a = true) (hb : rightB b = true) : rightB (joinD a b) = true:=by
  rw [joinD,if_pos ⟨ha,hb⟩];exact (topI_fold b none a ha hb).1
theorem join_top {a b : List Dt} (ha : rightB a = true) (hb : rightB b = true) (x y : Int) : topI (joinD a b) x y = Max.max (topI a x y) (topI b x y):=by
  rw [joinD,if_pos ⟨ha,hb⟩];exact (topI_fold b none a ha hb).2 x y
theorem ins_len : ∀ (l : List Dt) (d : Dt), (insD l d).length ≤ l.length + 1
  | [],d=>by simp [insD]
  | x :: r,d=>by
    have:=ins_len r d
    unfold insD
    split
    · simp; omega
    split <;> simp
theorem add_len (l : List Dt) (d : Dt) : (addD l d).length ≤ l.length + 1:=by
  unfold addD
  split
  · simp
  split
  · omega
  exact ins_len l d
def lt3 (a b : Dt) : Prop:=a.node < b.node ∨ (a.node = b.node ∧ (a.epoch < b.epoch ∨ (a.epoch = b.epoch ∧ a.n < b.n)))
instance (a b : Dt) : Decidable (lt3 a b):=by unfold lt3; exact inferInstance
end Go.Hub
namespace Go.Hub
open Go.RowKit
section
variable {P : Program} {ops : Array Oper} {Q : Exit → Act → World → Prop} {md : Region.Mode} {S : World → Prop} {a : Act} {w w' : World} {n d : Nat} {l : FL} {v : Value} {o : Oper} {K : Act → World → Prop}
theorem O.val {i : Nat} (f : Fr n a l) (hi : ops[i]? = some o) (hd : o.dst = some d) (hn : d < n) (hw : Region.wanted o (yielded ops a.tmps) = true)
    (hv : (execOp a.eval o).run P w = .ok (.value v) w') (hS : S w') (hK : ∀ a',Fr n a' ((d,v) :: l) → K a' w') : wpOp P ops Q i (fun a w=>S w ∧ K a w) a w:=by
  unfold wpOp;simp only [hi,hw,if_true];refine .inl ?_;unfold Oper.wp;rw [hv];show S w' ∧ K (a.put o.dst v) w';rw [hd];exact ⟨hS,hK _ (f.put d v hn)⟩
theorem R.one (i : Nat) {fuel : Nat} {listed : Array Bool} (hr : Region.ready md ops listed = [i]) (h : wpOp P ops Q i (fun a w=>S w ∧ wpAnyH P md ops Q S fuel (listed.setIfInBounds i true) a w) a w) : wpAnyH P md ops Q S (fuel + 1) listed a w:=
  wpAnyH_all hr (by simp) fun j hj=>by
    simp only [List.mem_singleton] at hj
    subst hj
    exact h
theorem R.two (i j : Nat) {fuel : Nat} {listed : Array Bool} (hr : Region.ready md ops listed = [i, j]) (h : wpOp P ops Q i (fun a w => S w ∧ wpAnyH P md ops Q S fuel (listed.setIfInBounds i true) a w) a w)
    (h' : wpOp P ops Q j (fun a w=>S w ∧ wpAnyH P md ops Q S fuel (listed.setIfInBounds j true) a w) a w) : wpAnyH P md ops Q S (fuel + 1) listed a w:=
  wpAnyH_all hr (by simp) fun k hk=>by
    simp only [List.mem_cons,List.not_mem_nil,or_false] at hk
    rcases hk with rfl | rfl
    · exact h
    · exact h'
end
section
variable {P : Program} {ops : Array Oper} {rest : List Oper} {a : Act} {w : World} {Q : Exit → Act → World → Prop} {n d : Nat} {l : FL} {v : Value} {ty : TypeId} {ps : String} {af : Array Edge} {gd : Option (Nat × Bool)} {x y : Operand} {t : TypeId}
theorem E.eqlNil {dst : Option Nat} (f : Fr n a l) {e : TypeId} {A : Option Addr} {m c : Nat} {u : TypeId} (ht : P.underlying t = some (.slice e)) (hx : evl l x = some (.slice A m c)) (hy : evl l y = some (.slice none 0 0)) : (execOp a.eval ⟨dst,.binOp .eql t x y u,ty,ps,af,gd⟩).run P w = .ok (.value (.bool A.isNone)) w:=
  E.eqlV f hx hy fun w=>by
    rw [Sem.run_bind]
    have:=Lib.run_eql_slice_nil (P:=P) w t e A m c 0 0 ht
    simp only [eqGuard]
    exact this
theorem E.buildSlice {dst : Option Nat} (f : Fr n a l) {parts : Array (Nat × Operand)} {vs : List (Nat × Value)} {e len sz : Nat} {cells : Array Value} {z : Value} (hx : (parts.map fun p => (p.1, a.eval p.2)).toList = vs) (hu : P.underlying t = some (.slice e))
    (hi : (P.info? e).map (fun i=>(i.zero,i.size)) = some (some z,sz)) (hs : Nat.ble (len * sz) 16777216 = true) (hp : Nat.beq (len * sz) 0 = false) (hf : Instr.fill (fun i=>some (i * sz,sz)) ((Array.range (len * sz)).map fun j=>z.cells[j % z.cells.size]!) vs = some cells) :
    (execOp a.eval ⟨dst,.buildSlice t len parts,ty,ps,af,gd⟩).run P w = .ok (.value (.slice (some ⟨w.heap.size,0,none⟩) len len)) (w.alloc (.cells cells e)):=by
  cases hq : P.info? e with
  | none=>simp [hq] at hi
  | some ie=>
    simp [hq] at hi;obtain ⟨h1,h2⟩:=hi;subst h2;have hx' : (parts.map fun (i,x)=>(i,a.eval x)).toList = vs:=hx;have hle:=Nat.le_of_ble_eq_true hs;have hr:=run_buildSlice (P:=P) w t e len (parts.map fun (i,x)=>(i,a.eval x)) cells ie z hu hq h1 (by omega) (fun h0=>by rw [h0] at hp; simp at hp) (by rw [hx']; exact hf);simp only [execOp];rw [Sem.run_bind,hr]
    rfl
theorem E.buildNone {dst : Option Nat} (f : Fr n a l) {e : TypeId} {sz : Nat} (hu : P.underlying t = some (.slice e)) (hi : (P.info? e).map (·.size) = some sz) :
    (execOp a.eval ⟨dst,.buildSlice t 0 #[],ty,ps,af,gd⟩).run P w = .ok (.value (.slice (some ⟨w.heap.size,0,none⟩) 0 0)) (w.alloc (.cells #[] e)):=by
  cases hq : P.info? e with
  | none=>simp [hq] at hi
  | some ie=>
    have e0 : ∀ z : Array Value,(Array.range 0).map (fun x=>z[x % z.size]!) = #[]:=fun z=>by simp
    have e1 : (Array.range 0).map (fun _=>(default : Value)) = #[]:=by simp [Array.range]
    simp [execOp,Instr.buildSlice,run_underlying hu,sizeOf,typeInfo,hq,Instr.fill,newRow];rw [e1]
theorem L.buildSlice (f : Fr n a l) {parts : Array (Nat × Operand)} {len : Nat} (hw : Region.wanted ⟨some d, .buildSlice t len parts, ty, ps, af, gd⟩ (yielded ops a.tmps) = true) (hn : d < n) {vs : List (Nat × Value)} {e sz : Nat} {cells : Array Value} {z : Value} (hx : (parts.map fun p => (p.1, a.eval p.2)).toList = vs) (hu : P.underlying t = some (.slice e))
    (hi : (P.info? e).map (fun i=>(i.zero,i.size)) = some (some z,sz)) (hs : Nat.ble (len * sz) 16777216 = true) (hp : Nat.beq (len * sz) 0 = false) (hf : Instr.fill (fun i=>some (i * sz,sz)) ((Array.range (len * sz)).map fun j=>z.cells[j % z.cells.size]!) vs = some cells)
    (hK : ∀ a' w' g,Newb w w' g e cells → Fr n a' ((d,.slice (some ⟨g,0,none⟩) len len) :: l) → wpList P ops Q rest a' w') : wpList P ops Q (⟨some d,.buildSlice t len parts,ty,ps,af,gd⟩ :: rest) a w:=
  L.val f hw rfl hn (E.buildSlice f hx hu hi hs hp hf) fun a' f'=>hK a' _ _ (newb w e _) f'
theorem L.buildNone (f : Fr n a l) (hw : Region.wanted ⟨some d, .buildSlice t 0 #[], ty, ps, af, gd⟩ (yielded ops a.tmps) = true) (hn : d < n) {e : TypeId} {sz : Nat} (hu : P.underlying t = some (.slice e)) (hi : (P.info? e).map (·.size) = some sz)
    (hK : ∀ a' w' g,Newb w w' g e #[] → Fr n a' ((d,.slice (some ⟨g,0,none⟩) 0 0) :: l) → wpList P ops Q rest a' w') : wpList P ops Q (⟨some d,.buildSlice t 0 #[],ty,ps,af,gd⟩ :: rest) a w:=
  L.val f hw rfl hn (E.buildNone f hu hi) fun a' f'=>hK a' _ _ (newb w e _) f'
theorem Newb.own {w w' : World} {g : Nat} {e : TypeId} {cs : Array Value} (h : Newb w w' g e cs) {k size : Nat} (hs : cs.size = k * size) (hk : k ≤ maxLen) : Own w' e size (.slice (some ⟨g,0,none⟩) k k) k cs.toList:=
  ⟨by simpa using hs,.inr ⟨g,0,k,cs,rfl,h.blk,Nat.le_refl _,hk,by omega,fun j u hu=>by rw [Nat.zero_add]; simpa using hu⟩⟩
structure App (w w' : World) (e : TypeId) (size : Nat) (A : Option Addr) (k c : Nat) (xs news : List Value) (m : Nat) (A' : Option Addr) (c' : Nat) : Prop where
  own : Own w' e size (.slice A' (k + m) c') (k + m) (xs ++ news)
  kept : Kept (Value.slice A k c).ownBlock.toList w w'
  where_ : ∀ b,A'.map (·.block) = some b → A.map (·.block) = some b ∨ w.heap.size ≤ b
theorem E.append {dst : Option Nat} (f : Fr n a l) {e size bytes k c m c2 : Nat} {z : Value} {A A2 : Option Addr} {xs news : List Value} (ht : P.underlying t = some (.slice e)) (hi : (P.info? e).map (fun i => (i.zero, i.size, i.bytes)) = some (some z, size, bytes)) (hzs : z.cells.size = size) (hsz : Nat.blt 0 size = true)
    (hx : evl l x = some (.slice A k c)) (hy : evl l y = some (.slice A2 m c2)) (hown : Own w e size (.slice A k c) k xs) (hr : Sl w A2 m size news) (h1 : ∀ u ∈ news,u.oneCell' = true) (h63 : k + m ≤ maxLen) (hb : (k + m) * bytes ≤ 140737488355328) :
    ∃ A' c' w',(execOp a.eval ⟨dst,.call { callee:=.builtin .append,args:=#[x,y],argTypes:=#[t,t] },ty,ps,af,gd⟩).run P w = .ok (.value (.slice A' (k + m) c')) w' ∧ App w w' e size A k c xs news m A' c':=by
  obtain ⟨ie,hie,h2,h3,h4⟩:=info_parts hi;obtain ⟨v',w',hrun,ho,hk,hwh⟩:=append_own (P:=P) w t ty e ie z size bytes ht hie h2 h3 h4 hzs (by simpa using hsz) (.slice A k c) k xs hown w.heap.size A2 m c2 news hr.rds h1 h63 hb;obtain ⟨A',c',rfl,_⟩:=ho.form;refine ⟨A',c',w',?_,ho,hk,fun b hb=>?_⟩
  · simp only [execOp,resolve,invoke,builtin,Sem.run_bind,Sem.run_pure,Result.andThen_ok,List.map_toArray,List.map_cons,List.map_nil,f.ev hx,f.ev hy,hrun]
  · have := hwh b (by cases A' <;> simp_all [Value.ownBlock])
    rcases this with h | h
    · exact .inl (by cases A <;> simp_all [Value.ownBlock])
    · exact .inr h
theorem L.append (f : Fr n a l) (hw : Region.wanted ⟨some d, .call { callee := .builtin .append, args := #[x, y], argTypes := #[t, t] }, ty, ps, af, gd⟩ (yielded ops a.tmps) = true) (hn : d < n) {e size bytes k c m c2 : Nat} {z : Value} {A A2 : Option Addr} {xs news : List Value} (ht : P.underlying t = some (.slice e)) (hi : (P.info? e).map (fun i => (i.zero, i.size, i.bytes)) = some (some z, size, bytes)) (hzs : z.cells.size = size) (hsz : Nat.blt 0 size = true)
    (hx : evl l x = some (.slice A k c)) (hy : evl l y = some (.slice A2 m c2)) (hown : Own w e size (.slice A k c) k xs) (hr : Sl w A2 m size news) (h1 : ∀ u ∈ news,u.oneCell' = true) (h63 : k + m ≤ maxLen) (hb : (k + m) * bytes ≤ 140737488355328)
    (hK : ∀ a' w' A' c',App w w' e size A k c xs news m A' c' → Fr n a' ((d,.slice A' (k + m) c') :: l) → wpList P ops Q rest a' w') : wpList P ops Q (⟨some d,.call { callee:=.builtin .append,args:=#[x,y],argTypes:=#[t,t] },ty,ps,af,gd⟩ :: rest) a w:=by
  obtain ⟨A',c',w',hrun,happ⟩:=E.append (dst:=some d) (ty:=ty) (ps:=ps) (af:=af) (gd:=gd) f ht hi hzs hsz hx hy hown hr h1 h63 hb;exact L.val f hw rfl hn hrun fun a' f'=>hK a' w' A' c' happ f'
end
structure Fresh (w w' : World) (e size : Nat) (A : Option Addr) (n c : Nat) (xs : List Value) : Prop where
  own : Own w' e size (.slice A n c) n xs
  lo : ∀ b,A.map (·.block) = some b → w.heap.size ≤ b
section
variable {w w' w'' : World} {e size k c m c' n : Nat} {A A' : Option Addr} {xs news : List Value}
theorem Fresh.nil (w w' : World) (e size : Nat) : Fresh w w' e size none 0 0 []:=⟨Own.nil _ _ _,fun b h=>by simp at h⟩
theorem Fresh.sl (h : Fresh w w' e size A n c xs) : Sl w' A n size xs:=Sl.of_own h.own
theorem own_block (A : Option Addr) (n c : Nat) (b : Nat) : (Value.slice A n c).ownBlock = some b ↔ A.map (·.block) = some b:=by cases A <;> simp [Value.ownBlock]
theorem Fresh.kept {L : List Nat} (h : Fresh w w' e size A n c xs) (hk : Kept L w' w'') (hf : ∀ b,A.map (·.block) = some b → b ∉ L) : Fresh w w'' e size A n c xs:=
  ⟨h.own.kept hk fun b hb=>hf b ((own_block A n c b).1 hb),h.lo⟩
theorem Fresh.kept0 (h : Fresh w w' e size A n c xs) (hk : Kept [] w' w'') : Fresh w w'' e size A n c xs:=h.kept hk (by simp)
theorem Fresh.lower {w0 : World} (h : Fresh w w' e size A n c xs) (hs : w0.heap.size ≤ w.heap.size) : Fresh w0 w' e size A n c xs:=⟨h.own,fun b hb=>Nat.le_trans hs (h.lo b hb)⟩
theorem App.next {w0 : World} (h : App w w' e size A k c xs news m A' c') (hf : Fresh w0 w e size A k c xs) (hs : w0.heap.size ≤ w.heap.size) : Fresh w0 w' e size A' (k + m) c' (xs ++ news):=
  ⟨h.own,fun b hb=>by
    rcases h.where_ b hb with h1 | h1
    · exact hf.lo b h1
    · omega⟩
theorem App.grow {w0 : World} {L : List Nat} (h : App w w' e size A k c xs news m A' c') (hf : Fresh w0 w e size A k c xs) (hk : Kept L w0 w) : Kept L w0 w':=
  hk.trans h.kept fun x hx hlt=>by
    have:=hf.lo x ((own_block A k c x).1 (by simpa using hx))
    omega
end
section
variable {w w' : World} {e size n c : Nat} {A : Option Addr} {xs : List Value}
theorem Own.set_ (h : Own w e size (.slice A n c) n xs) {b off j : Nat} (hA : A = some ⟨b, off, none⟩) (hj : j < xs.length) (u : Value) :
    (∃ old,w.cell? ⟨b,off + j,none⟩ = some old) ∧ w.frozen? ⟨b,off + j,none⟩ = false ∧ Own (w.setCell ⟨b,off + j,none⟩ u) e size (.slice A n c) n (xs.set j u):=by
  obtain ⟨h1,h2⟩:=h
  rcases h2 with ⟨hv,h0⟩ | ⟨g,o,cap,cur,hv,hg,hnc,hcm,hcs,hc⟩
  · subst h0
    rw [h1,Nat.zero_mul] at hj;omega
  · injection hv with e1 e2 e3
    subst e3;rw [hA] at e1
    injection e1 with e1
    injection e1 with e4 e5
    subst e4 e5;have hB : Blk w b e cur:=hg
    have hlt : off + j < cur.size:=by
      have : n * size ≤ c * size:=Nat.mul_le_mul_right _ hnc;omega
    refine ⟨⟨cur[off + j],hB.cell_ (Array.getElem?_eq_getElem hlt)⟩,hB.frozen _,by rw [List.length_set]; exact h1,.inr ⟨b,off,c,cur.setIfInBounds (off + j) u,by rw [hA],hB.set_ _ _,hnc,hcm,by simpa using hcs,fun i v hv=>?_⟩⟩;rw [Array.getElem?_setIfInBounds];rw [List.getElem?_set] at hv
    by_cases hij : j = i
    · subst hij
      rw [if_pos rfl,if_pos hj] at hv;rw [if_pos rfl,if_pos hlt];exact hv
    · rw [if_neg hij] at hv
      rw [if_neg (by omega)];exact hc i v hv
end
section
variable {P : Program} {ops : Array Oper} {rest : List Oper} {a : Act} {w w0 : World} {Q : Exit → Act → World → Prop} {n d : Nat} {l : FL} {v : Value} {ty : TypeId} {ps : String} {af : Array Edge} {gd : Option (Nat × Bool)} {x y : Operand} {t : TypeId} {dst : Option Nat}
theorem L.storeF (f : Fr n a l) (hw : Region.wanted ⟨none, .store t x y, ty, ps, af, gd⟩ (yielded ops a.tmps) = true) (hi : (P.info? t).map (·.size) = some 1) {b off j e size k c : Nat} {A : Option Addr} {xs : List Value} (hA : A = some ⟨b, off, none⟩) (F : Fresh w0 w e size A k c xs) (hx : evl l x = some (.pointer (some ⟨b, off + j, none⟩))) (hj : j < xs.length) (hy : evl l y = some v) (h1 : v.oneCell' = true)
    (hK : ∀ a' w',Fr n a' l → Fresh w0 w' e size A k c (xs.set j v) → Kept [b] w w' → w0.heap.size ≤ b → wpList P ops Q rest a' w') : wpList P ops Q (⟨none,.store t x y,ty,ps,af,gd⟩ :: rest) a w:=by
  obtain ⟨⟨old,h2⟩,h3,h4⟩:=F.own.set_ hA hj v;exact L.act f hw rfl (E.store f hi hx hy h1 h2 h3) fun a' f'=>hK a' _ f' ⟨h4,F.lo⟩ (setCell_kept w b (off + j) v) (F.lo b (by rw [hA]; rfl))
end
section
variable {P : Program} {ops : Array Oper} {Q : Exit → Act → World → Prop} {S : World → Prop} {a : Act} {w : World} {n d : Nat} {l : FL} {K : Act → World → Prop} {ty : TypeId} {ps : String} {af : Array Edge} {gd : Option (Nat × Bool)} {x y : Operand} {t : TypeId}
theorem O.append {i : Nat} (f : Fr n a l) (ho : ops[i]? = some ⟨some d, .call { callee := .builtin .append, args := #[x, y], argTypes := #[t, t] }, ty, ps, af, gd⟩) (hw : Region.wanted ⟨some d, .call { callee := .builtin .append, args := #[x, y], argTypes := #[t, t] }, ty, ps, af, gd⟩ (yielded ops a.tmps) = true) (hn : d < n) {e size bytes k c m c2 : Nat} {z : Value} {A A2 : Option Addr} {xs news : List Value} (ht : P.underlying t = some (.slice e)) (hi : (P.info? e).map (fun i => (i.zero, i.size, i.bytes)) = some (some z, size, bytes)) (hzs : z.cells.size = size) (hsz : Nat.blt 0 size = true)
    (hx : evl l x = some (.slice A k c)) (hy : evl l y = some (.slice A2 m c2)) (hown : Own w e size (.slice A k c) k xs) (hr : Sl w A2 m size news) (h1 : ∀ u ∈ news,u.oneCell' = true) (h63 : k + m ≤ maxLen) (hb : (k + m) * bytes ≤ 140737488355328)
    (hK : ∀ a' w' A' c',App w w' e size A k c xs news m A' c' → S w' ∧ (Fr n a' ((d,.slice A' (k + m) c') :: l) → K a' w')) : wpOp P ops Q i (fun a w=>S w ∧ K a w) a w:=by
  obtain ⟨A',c',w',hrun,happ⟩:=E.append (dst:=some d) (ty:=ty) (ps:=ps) (af:=af) (gd:=gd) f ht hi hzs hsz hx hy hown hr h1 h63 hb;exact O.val f ho rfl hn hw hrun (hK a w' A' c' happ).1 fun a' f'=>(hK a' w' A' c' happ).2 f'
theorem O.buildSlice {i : Nat} (f : Fr n a l) {parts : Array (Nat × Operand)} {len : Nat} (ho : ops[i]? = some ⟨some d, .buildSlice t len parts, ty, ps, af, gd⟩) (hw : Region.wanted ⟨some d, .buildSlice t len parts, ty, ps, af, gd⟩ (yielded ops a.tmps) = true) (hn : d < n) {vs : List (Nat × Value)} {e sz : Nat} {cells : Array Value} {z : Value} (hx : (parts.map fun p => (p.1, a.eval p.2)).toList = vs) (hu : P.underlying t = some (.slice e))
    (hi : (P.info? e).map (fun i=>(i.zero,i.size)) = some (some z,sz)) (hs : Nat.ble (len * sz) 16777216 = true) (hp : Nat.beq (len * sz) 0 = false) (hf : Instr.fill (fun i=>some (i * sz,sz)) ((Array.range (len * sz)).map fun j=>z.cells[j % z.cells.size]!) vs = some cells)
    (hS : ∀ w',Kept [] w w' → S w') (hK : ∀ a' w' g,Newb w w' g e cells → S w' → Fr n a' ((d,.slice (some ⟨g,0,none⟩) len len) :: l) → K a' w') : wpOp P ops Q i (fun a w=>S w ∧ K a w) a w:=
  O.val f ho rfl hn hw (E.buildSlice f hx hu hi hs hp hf) (hS _ (newb w e _).kept) fun a' f'=>hK a' _ _ (newb w e _) (hS _ (newb w e _).kept) f'
theorem O.alloc {i : Nat} (f : Fr n a l) (ho : ops[i]? = some ⟨some d, .alloc t, ty, ps, af, gd⟩) (hw : Region.wanted ⟨some d, .alloc t, ty, ps, af, gd⟩ (yielded ops a.tmps) = true) (hn : d < n) {z : Value} (hz : ∀ w, (zeroValue t).run P w = .ok z w) {cs : Array Value} (hcs : z.cells = cs)
    (hS : ∀ w',Kept [] w w' → S w') (hK : ∀ a' w' g,Newb w w' g t cs → S w' → Fr n a' ((d,.pointer (some ⟨g,0,none⟩)) :: l) → K a' w') : wpOp P ops Q i (fun a w=>S w ∧ K a w) a w:=
  O.val f ho rfl hn hw (E.alloc f hz) (hS _ (newb w t _).kept) fun a' f'=>hK a' _ _ (hcs ▸ newb w t _) (hS _ (newb w t _).kept) f'
end
end Go.Hub
namespace Go.Hub
open Go.RowKit
def setSeg : List Value → Nat → List Value → List Value
  | xs,_,[]=>xs
  | xs,o,v :: r=>setSeg (xs.set o v) (o + 1) r
theorem setSeg_len : ∀ (vs xs : List Value) (o : Nat), (setSeg xs o vs).length = xs.length
  | [],_,_=>rfl
  | v :: r,xs,o=>by rw [setSeg,setSeg_len r,List.length_set]
theorem setSeg_at : ∀ (vs xs : List Value) (o i : Nat), o + vs.length ≤ xs.length → (setSeg xs o vs)[i]? = if o ≤ i ∧ i < o + vs.length then vs[i - o]? else xs[i]?
  | [],xs,o,i,_=>by
    have : ¬ (o ≤ i ∧ i < o + ([] : List Value).length):=by simp
    rw [if_neg this]
    rfl
  | v :: r,xs,o,i,h=>by
    simp only [List.length_cons] at h
    rw [setSeg,setSeg_at r _ (o + 1) i (by rw [List.length_set]; omega)]
    by_cases h1 : o + 1 ≤ i ∧ i < o + 1 + r.length
    · rw [if_pos h1, if_pos (by simp; omega)]
      rw [show i - o = (i - (o + 1)) + 1 by omega]
      rfl
    · rw [if_neg h1, List.getElem?_set]
      by_cases h2 : o = i
      · subst h2
        rw [if_pos rfl,if_pos (by omega),if_pos (by simp)]
        simp
      · rw [if_neg h2,if_neg (by simp; omega)]
section
variable {M : Type} (cell : M → List Value) (size : Nat) (hs : ∀ m,(cell m).length = size)
include hs
theorem flat_get (l : List M) (i : Nat) : (l.flatMap cell)[i]? = (l[i / size]?).bind fun m=>(cell m)[i % size]?:=by
  induction l generalizing i with
  | nil=>simp
  | cons a r ih=>
    simp only [List.flatMap_cons]
    rcases Nat.lt_or_ge i size with h | h
    · rw [List.getElem?_append_left (by rw [hs]; exact h), Nat.div_eq_of_lt h, Nat.mod_eq_of_lt h]
      rfl
    · rw [List.getElem?_append_right (by rw [hs]; exact h), hs, ih]
      rcases Nat.eq_zero_or_pos size with h0 | h0
      · subst h0
        have : ∀ m,cell m = []:=fun m=>List.eq_nil_of_length_eq_zero (hs m);simp [this]
      · rw [Nat.div_eq_sub_div h0 h, Nat.mod_eq_sub_mod h]
        rfl
theorem flat_seg (h0 : 0 < size) (l : List M) (i : Nat) (m : M) (hi : i < l.length) : setSeg (l.flatMap cell) (i * size) (cell m) = (l.set i m).flatMap cell:=by
  have hlen : (l.flatMap cell).length = l.length * size:=flat_len cell size hs l
  have hle : i * size + size ≤ l.length * size:=by
    calc i * size + size = (i + 1) * size := by rw [Nat.add_mul, Nat.one_mul]
      _ ≤ l.length * size:=Nat.mul_le_mul_right _ hi
  apply List.ext_getElem?
  intro j;rw [setSeg_at _ _ _ _ (by rw [hs,hlen]; exact hle),flat_get cell size hs,flat_get cell size hs,List.getElem?_set]
  by_cases hj : i * size ≤ j ∧ j < i * size + (cell m).length
  · rw [if_pos hj]
    rw [hs] at hj
    have e1 : j / size = i:=by
      refine (Nat.div_eq_iff h0).2 ⟨hj.1,?_⟩;omega
    have e2 : j % size = j - i * size:=by
      have:=Nat.div_add_mod j size;rw [e1,Nat.mul_comm] at this;omega
    rw [e1,e2,if_pos rfl,if_pos hi]
    rfl
  · rw [if_neg hj]
    rw [hs] at hj;have e1 : ¬ i = j / size:=fun e=>hj ⟨by rw [e]; exact Nat.div_mul_le_self j size,by rw [e]; have:=Nat.lt_div_mul_add (a:=j) h0; omega⟩;rw [if_neg e1]
end
section
variable {w : World} {g : Nat} {t : TypeId}
theorem Blk.seg : ∀ (vs xs : List Value) (o : Nat) (w : World), Blk w g t xs.toArray → Blk (w.setCells g o vs) g t (setSeg xs o vs).toArray
  | [],_,_,_,h=>h
  | v :: r,xs,o,w,h=>by
    have:=h.set_ o v
    simp only [List.setIfInBounds_toArray] at this
    exact Blk.seg r (xs.set o v) (o + 1) _ this
end
section
variable {P : Program} {ops : Array Oper} {rest : List Oper} {a : Act} {w : World} {Q : Exit → Act → World → Prop} {n d : Nat} {l : FL} {v : Value} {dst : Option Nat} {ty : TypeId} {ps : String} {af : Array Edge} {gd : Option (Nat × Bool)} {x y : Operand} {t : TypeId} {S : World → Prop} {K : Act → World → Prop}
theorem E.storeSeg (f : Fr n a l) {g o e s : Nat} {xs : List Value} {cs : Array Value} (hi : (P.info? t).map (·.size) = some s) (hx : evl l x = some (.pointer (some ⟨g, o, none⟩))) (hy : evl l y = some (.agg cs)) (h1 : cs.toList.all (·.oneCell') = true) (B : Blk w g e xs.toArray) (ho : o + cs.size ≤ xs.length) (hl : cs.size = s) :
    (execOp a.eval ⟨dst,.store t x y,ty,ps,af,gd⟩).run P w = .ok .skip (w.setCells g o cs.toList):=
  E.storeR f (hl ▸ hi) hx hy (by simpa using h1) (B.there (by simpa using ho))
theorem O.act {i : Nat} {o : Oper} {w' : World} (f : Fr n a l) (hi : ops[i]? = some o) (hd : o.dst = none) (hw : Region.wanted o (yielded ops a.tmps) = true)
    (hv : (execOp a.eval o).run P w = .ok .skip w') (hS : S w') (hK : ∀ a',Fr n a' l → K a' w') : wpOp P ops Q i (fun a w=>S w ∧ K a w) a w:=by
  unfold wpOp;simp only [hi,hw,if_true];refine .inl ?_;unfold Oper.wp;rw [hv];show S w' ∧ K (a.put o.dst undef) w';rw [hd];exact ⟨hS,hK _ f⟩
theorem O.storeSeg {i : Nat} (f : Fr n a l) (hio : ops[i]? = some ⟨none, .store t x y, ty, ps, af, gd⟩) (hw : Region.wanted ⟨none, .store t x y, ty, ps, af, gd⟩ (yielded ops a.tmps) = true) {g o e s : Nat} {xs : List Value} {cs : Array Value} (hi : (P.info? t).map (·.size) = some s) (hx : evl l x = some (.pointer (some ⟨g, o, none⟩))) (hy : evl l y = some (.agg cs)) (h1 : cs.toList.all (·.oneCell') = true) (B : Blk w g e xs.toArray) (ho : o + cs.size ≤ xs.length) (hl : cs.size = s)
    (hS : ∀ w',Kept [g] w w' → S w') (hK : ∀ a' w',Fr n a' l → Blk w' g e (setSeg xs o cs.toList).toArray → Kept [g] w w' → K a' w') : wpOp P ops Q i (fun a w=>S w ∧ K a w) a w:=
  O.act f hio rfl hw (E.storeSeg f hi hx hy h1 B ho hl) (hS _ (setCells_kept w g o _)) fun a' f'=>hK a' _ f' (B.seg cs.toList xs o w) (setCells_kept w g o _)
theorem E.indexArr (f : Fr n a l) {e : TypeId} {b o m s : Nat} {k : IntKind} {i : Int} (ht : P.underlying t = some (.array m e)) (hs : (P.info? e).map (·.size) = some s) (hx : evl l x = some (.pointer (some ⟨b, o, none⟩))) (hy : evl l y = some (.int k i)) (h0 : 0 ≤ i) (h1 : i < m) :
    (execOp a.eval ⟨dst,.indexAddr t x y,ty,ps,af,gd⟩).run P w = .ok (.value (.pointer (some ⟨b,o + i.toNat * s,none⟩))) w:=by
  cases hq : P.info? e with
  | none=>simp [hq] at hs
  | some i'=>
    have hs' : i'.size = s:=by simpa [hq] using hs
    simp [execOp,f.ev hx,f.ev hy,Instr.indexAt,asIntOf,run_underlying ht,Instr.sureAddr,h0,h1,sizeOf,typeInfo,hq,hs',add_plain]
theorem L.make (f : Fr n a l) (hw : Region.wanted ⟨some d, .makeSlice t x y, ty, ps, af, gd⟩ (yielded ops a.tmps) = true) (hn : d < n) {e size bytes : Nat} {z : Value} {kl kc : IntKind} {i j : Int} (ht : P.underlying t = some (.slice e)) (hi : (P.info? e).map (fun i => (i.zero, i.size, i.bytes)) = some (some z, size, bytes))
    (hx : evl l x = some (.int kl i)) (hy : evl l y = some (.int kc j)) (h0 : 0 ≤ i) (h1 : i ≤ j) (hb : (bytes : Int) * j ≤ 281474976710656) (h63 : j ≤ 9223372036854775807)
    (hK : ∀ a' w' g,Newb w w' g e (madeCells z.cells (j.toNat * size)) → Fr n a' ((d,.slice (some ⟨g,0,none⟩) i.toNat j.toNat) :: l) → wpList P ops Q rest a' w') : wpList P ops Q (⟨some d,.makeSlice t x y,ty,ps,af,gd⟩ :: rest) a w:=by
  obtain ⟨ie,hie,h2,h3,h4⟩:=info_parts hi;subst h3 h4;have hr:=run_make (P:=P) w t e ie z ht hie h2 kl kc i j h0 h1 hb h63;refine L.val f hw rfl hn (v:=.slice (some ⟨w.heap.size,0,none⟩) i.toNat j.toNat) (w':=w.alloc (.cells (madeCells z.cells (j.toNat * ie.size)) e)) ?_ fun a' f'=>hK a' _ _ (newb w e _) f';simp only [execOp,f.ev hx,f.ev hy];rw [Sem.run_bind,hr]
  rfl
end
end Go.Hub
namespace Go.Hub
open Go.RowKit
section
variable {P : Program} {a : Act} {w : World} {n : Nat} {l : FL} {fn : Func} {R : Ending → World → Prop}
theorem C.retC (f : Fr n a l) {p : Tmp} {ty : TypeId} (hr : fn.results = #[.cell p ty]) {g : Nat} {cs : Array Value} {t : TypeId} {d : TypeDesc} (hp : look l p = some (.pointer (some ⟨g, 0, none⟩))) (B : Blk w g t cs)
    (hu : P.underlying ty = some d) (hd : (match d with | .struct _ | .array _ _=>true | _=>false) = true) (hi : (P.info? ty).map (·.size) = some cs.size) (h : R (.returned (.agg cs)) w) : bodyPost P fn R .ret a w:=
  ret_cell hr d (f.get hp) B hu hd hi f.defers h
theorem C.retCT (f : Fr n a l) {p u : Tmp} {ty : TypeId} (hr : fn.results = #[.cell p ty, .tmp u]) {g : Nat} {cs : Array Value} {t : TypeId} {d : TypeDesc} {v : Value} (hp : look l p = some (.pointer (some ⟨g, 0, none⟩))) (hv : look l u = some v) (B : Blk w g t cs)
    (hu : P.underlying ty = some d) (hd : (match d with | .struct _ | .array _ _=>true | _=>false) = true) (hi : (P.info? ty).map (·.size) = some cs.size) (h : R (.returned (.tuple #[.agg cs,v])) w) : bodyPost P fn R .ret a w:=
  ret_cell_tmp hr d (f.get hp) (f.get hv) B hu hd hi f.defers h
end
end Go.Hub
namespace Go.Hub
open Go.RowKit
def upto (m : Nat) (l : Array Bool) : Bool:=(List.range m).all fun i=>l.getD i true
def barrier (md : Region.Mode) (ops : Array Oper) (m : Nat) : Bool:=(List.range ops.size).all fun j=>Nat.blt j m || (List.range m).all fun i=>match ops[j]? with | some o=>o.after.any fun e=>Region.binds md e && Nat.beq e.on i | none=>true
def wpAnyB (P : Program) (md : Region.Mode) (ops : Array Oper) (Q : Exit → Act → World → Prop) (S : World → Prop) (m : Nat) : Nat → Array Bool → Act → World → Prop
  | 0,listed,a,w=>Region.ready md ops listed = [] ∧ Q .normal a w
  | fuel + 1, listed, a, w => if upto m listed = true then wpAnyH P md ops Q (fun _ => True) (fuel + 1) listed a w else
    (Region.ready md ops listed = [] → Q .normal a w) ∧
    ∀ i ∈ Region.ready md ops listed,wpOp P ops Q i (fun a' w'=>S w' ∧ wpAnyB P md ops Q S m fuel (listed.setIfInBounds i true) a' w') a w
section
variable {P : Program} {ops : Array Oper} {Q : Exit → Act → World → Prop} {md : Region.Mode} {S : World → Prop} {m : Nat}
theorem wpAny_of_B : ∀ (fuel : Nat) (listed : Array Bool) (a : Act) (w : World), wpAnyB P md ops Q S m fuel listed a w → wpAny P md ops Q fuel listed a w
  | 0,_,_,_,h=>h
  | fuel + 1,listed,a,w,h=>by
    unfold wpAnyB at h
    split at h
    · exact wpAny_of_held _ _ _ _ h
    · exact ⟨h.1,fun i hi=>wpOp_mono (fun a' w' h'=>wpAny_of_B fuel _ a' w' h'.2) (h.2 i hi)⟩
theorem upto_spec {l : Array Bool} (h : upto m l = true) {i : Nat} (hi : i < m) : l.getD i true = true:=by
  unfold upto at h;exact List.all_eq_true.1 h i (List.mem_range.2 hi)
theorem barrier_spec (h : barrier md ops m = true) {i j : Nat} {o : Oper} (hi : i < m) (hj : m ≤ j) (ho : ops[j]? = some o) : ∃ e ∈ o.after,Region.binds md e = true ∧ e.on = i:=by
  unfold barrier at h;have h1:=List.all_eq_true.1 h j (List.mem_range.2 (Array.getElem?_eq_some_iff.1 ho).1)
  have h2 : Nat.blt j m = false:=by
    cases hb : Nat.blt j m
    · rfl
    · have := Nat.le_of_ble_eq_true hb
      omega
  rw [h2,Bool.false_or] at h1;have h3:=List.all_eq_true.1 h1 i (List.mem_range.2 hi);rw [ho] at h3;obtain ⟨e,he,hb⟩:=Array.any_eq_true'.1 h3;rw [Bool.and_eq_true] at hb;exact ⟨e,he,hb.1,Nat.eq_of_beq_eq_true hb.2⟩
theorem wpAnyB_first {i : Nat} {oi : Oper} {v : Value} (hi : ops[i]? = some oi) (hsel : ∀ (j : Nat) (o : Oper) cs b, ops[j]? = some o → o.op ≠ .select cs b)
    (hQ : ∀ c a w,Q (.panic c) (a.put oi.dst v) w → Q (.panic c) a w) (him : i < m) (hbar : barrier md ops m = true) :
    ∀ (fuel : Nat) (listed : Array Bool) (a : Act) (w : World),
      (∀ j oj,ops[j]? = some oj → j ≠ i → listed.getD j true = false → (∀ e ∈ oj.after,Region.binds md e = true → e.on ≠ i) → oi.apart ops oj = true) →
      i ∈ Region.ready md ops listed → YieldsIf P ops S oi v a → S w →
      wpAnyB P md ops Q S m fuel (listed.setIfInBounds i true) (a.put oi.dst v) w → wpAnyB P md ops Q S m (fuel + 1) listed a w:=by
  intro fuel
  induction fuel with
  | zero=>
    intro listed a w _ hr hy hS H
    have hup : ¬ upto m listed = true:=fun hu=>by
      have h1:=upto_spec hu him;rw [(mem_ready.1 hr).1] at h1;cases h1
    unfold wpAnyB;rw [if_neg hup];refine ⟨fun h=>(by rw [h] at hr; cases hr),fun j hj=>?_⟩
    by_cases hji : j = i
    · subst hji; exact hy.wpOp hi hS ⟨hS,H⟩
    · have := ready_mono hj hji
      rw [H.1] at this;cases this
  | succ fuel ih=>
    intro listed a w hfree hr hy hS H
    have hup : ¬ upto m listed = true:=fun hu=>by
      have h1:=upto_spec hu him;rw [(mem_ready.1 hr).1] at h1;cases h1
    unfold wpAnyB;rw [if_neg hup];refine ⟨fun h=>(by rw [h] at hr; cases hr),fun j hj=>?_⟩
    by_cases hji : j = i
    · subst hji; exact hy.wpOp hi hS ⟨hS,H⟩
    · obtain ⟨hjun, oj, hoj, hall⟩ := mem_ready.1 hj
      have hnot : ∀ e ∈ oj.after,Region.binds md e = true → e.on ≠ i:=fun e he hb heq=>by
        have h1:=hall e he hb;have h0:=(mem_ready.1 hr).1;rw [heq] at h1
        rcases Nat.lt_or_ge i listed.size with h' | h'
        · simp [h'] at h0 h1; rw [h0] at h1; cases h1
        · simp [Array.getElem?_eq_none h'] at h1
      have hjm : j < m:=by
        rcases Nat.lt_or_ge j m with h | h
        · exact h
        · obtain ⟨e, he, hb, heq⟩ := barrier_spec hbar him h hoj
          exact absurd heq (hnot e he hb)
      have hup' : ¬ upto m (listed.setIfInBounds i true) = true:=fun hu=>by
        have h1:=upto_spec hu hjm;rw [getD_set_ne true (Ne.symm hji),hjun] at h1;cases h1
      unfold wpAnyB at H;rw [if_neg hup'] at H;have h1:=H.2 j (ready_mono hj hji);have h2:=wpOp_putIf hoj (hfree j oj hoj hji hjun hnot) (fun cs b=>hsel i oi cs b hi) (fun cs b=>hsel j oj cs b hoj) hQ hy h1
      have hfree' : ∀ k ok, ops[k]? = some ok → k ≠ i → (listed.setIfInBounds j true).getD k true = false →
          (∀ e ∈ ok.after,Region.binds md e = true → e.on ≠ i) → oi.apart ops ok = true:=fun k ok hk hki hun hno=>by
        refine hfree k ok hk hki ?_ hno
        by_cases hjk : j = k
        · subst hjk; exact hjun
        · rw [getD_set_ne true hjk] at hun; exact hun
      refine wpOp_mono (fun a' w' h3=>⟨h3.2.1,ih (listed.setIfInBounds j true) a' w' hfree' (ready_mono hr (Ne.symm hji)) h3.1 h3.2.1 ?_⟩) h2;rw [Array.setIfInBounds_comm _ _ hji];exact h3.2.2
theorem wpAnyB_take {i : Nat} {oi : Oper} {v : Value} {fuel : Nat} {listed : Array Bool} {a : Act} {w : World} (hi : ops[i]? = some oi) (hb : (Nat.blt i m && barrier md ops m) = true)
    (hs : Region.noSelect ops = true) (hf : Region.free md ops listed i = true) (hr : (Region.ready md ops listed).contains i = true)
    (hQ : ∀ c a w,Q (.panic c) (a.put oi.dst v) w → Q (.panic c) a w) (hy : YieldsIf P ops S oi v a) (hS : S w)
    (h : wpAnyB P md ops Q S m fuel (listed.setIfInBounds i true) (a.put oi.dst v) w) : wpAnyB P md ops Q S m (fuel + 1) listed a w:=
  wpAnyB_first hi (Region.noSelect_spec hs) hQ (Nat.le_of_ble_eq_true (Bool.and_eq_true _ _ ▸ hb).1) (Bool.and_eq_true _ _ ▸ hb).2 fuel listed a w (Region.free_spec hi hf) (by simpa using hr) hy hS h
theorem wpAnyB_all {rs : List Nat} {fuel : Nat} {listed : Array Bool} {a : Act} {w : World} (hu : upto m listed = false) (hr : Region.ready md ops listed = rs) (hne : rs ≠ [])
    (h : ∀ i ∈ rs,wpOp P ops Q i (fun a' w'=>S w' ∧ wpAnyB P md ops Q S m fuel (listed.setIfInBounds i true) a' w') a w) : wpAnyB P md ops Q S m (fuel + 1) listed a w:=by
  unfold wpAnyB;rw [if_neg (by rw [hu]; simp)];exact ⟨fun h0=>absurd (hr ▸ h0) hne,hr ▸ h⟩
theorem RB.stop {fuel : Nat} {listed : Array Bool} {a : Act} {w : World} (hu : upto m listed = true) (h : wpAnyH P md ops Q (fun _=>True) (fuel + 1) listed a w) : wpAnyB P md ops Q S m (fuel + 1) listed a w:=by
  unfold wpAnyB;rw [if_pos hu];exact h
end
section
variable {P : Program} {ops : Array Oper} {Q : Exit → Act → World → Prop} {md : Region.Mode} {S : World → Prop} {a : Act} {w w' : World} {n d : Nat} {l : FL} {v : Value} {o : Oper} {m : Nat}
theorem RB.begin {id : Nat} (m : Nat) (hm : P.follows .mixedOrders = true) (hS : S (w.drewN 1))
    (h : wpAnyB P .any ops Q S m ops.size (Array.replicate ops.size false) a (w.drewN 1)) : (Code.region id ops true).wp P Q a w:=wp_region_any hm (wpAny_of_B _ _ _ _ h)
theorem RB.take (i : Nat) {fuel : Nat} {listed : Array Bool} (f : Fr n a l) (hi : ops[i]? = some o) (hd : o.dst = some d) (hn : d < n) (hb : (Nat.blt i m && barrier md ops m) = true) (hs : Region.noSelect ops = true) (hf : Region.free md ops listed i = true)
    (hr : (Region.ready md ops listed).contains i = true) (hQ : ∀ c (a : Act) (u : Value) w,Q (.panic c) (a.put (some d) u) w → Q (.panic c) a w) (hw : Region.wanted o (yielded ops a.tmps) = true) (hS : S w)
    (hv : ∀ w,S w → (execOp a.eval o).run P w = .ok (.value v) w)
    (hK : ∀ a',Fr n a' ((d,v) :: l) → wpAnyB P md ops Q S m fuel (listed.setIfInBounds i true) a' w) : wpAnyB P md ops Q S m (fuel + 1) listed a w:=by
  refine wpAnyB_take hi hb hs hf hr (v:=v) (fun c a w h=>hQ c a v w (by rwa [hd] at h)) (.inl ⟨hw,hv⟩) hS ?_;rw [hd];exact hK _ (f.put d v hn)
theorem RB.call (i : Nat) {fuel : Nat} {listed : Array Bool} (f : Fr n a l) (hi : ops[i]? = some o) (hd : o.dst = some d) (hn : d < n) (hu : upto m listed = false) (hr : Region.ready md ops listed = [i]) (hw : Region.wanted o (yielded ops a.tmps) = true)
    {fn : Nat} {args : Array Value} (h : (execOp a.eval o).run P w = .ok (.enter fn args) w) {R : Ending → World → Prop} (hc : Calls P fn args w R)
    (hR : ∀ e w',R e w' → ∃ v,e = .returned v ∧ S w' ∧ ∀ a',Fr n a' ((d,v) :: l) → wpAnyB P md ops Q S m fuel (listed.setIfInBounds i true) a' w') : wpAnyB P md ops Q S m (fuel + 1) listed a w:=by
  refine wpAnyB_all hu hr (by simp) ?_;intro j hj;simp only [List.mem_singleton] at hj;subst hj;unfold wpOp;simp only [hi,hw,if_true];refine .inl ?_;unfold Oper.wp;rw [h];refine Calls.mono hc ?_;intro e w' hr;obtain ⟨v,rfl,hS,hK⟩:=hR e w' hr;show S w' ∧ wpAnyB P md ops Q S m fuel (listed.setIfInBounds j true) (a.put o.dst v) w';rw [hd];exact ⟨hS,hK _ (f.put d v hn)⟩
theorem RB.one (i : Nat) {fuel : Nat} {listed : Array Bool} (hu : upto m listed = false) (hr : Region.ready md ops listed = [i]) (h : wpOp P ops Q i (fun a w=>S w ∧ wpAnyB P md ops Q S m fuel (listed.setIfInBounds i true) a w) a w) : wpAnyB P md ops Q S m (fuel + 1) listed a w:=
  wpAnyB_all hu hr (by simp) fun j hj=>by
    simp only [List.mem_singleton] at hj
    subst hj
    exact h
theorem RB.two (i j : Nat) {fuel : Nat} {listed : Array Bool} (hu : upto m listed = false) (hr : Region.ready md ops listed = [i, j]) (h : wpOp P ops Q i (fun a w => S w ∧ wpAnyB P md ops Q S m fuel (listed.setIfInBounds i true) a w) a w)
    (h' : wpOp P ops Q j (fun a w=>S w ∧ wpAnyB P md ops Q S m fuel (listed.setIfInBounds j true) a w) a w) : wpAnyB P md ops Q S m (fuel + 1) listed a w:=
  wpAnyB_all hu hr (by simp) fun k hk=>by
    simp only [List.mem_cons,List.not_mem_nil,or_false] at hk
    rcases hk with rfl | rfl
    · exact h
    · exact h'
end
section
variable {P : Program} {ops : Array Oper} {Q : Exit → Act → World → Prop} {a : Act} {w : World} {n d : Nat} {l : FL} {v : Value} {ty : TypeId} {ps : String} {af : Array Edge} {gd : Option (Nat × Bool)} {x y : Operand} {t : TypeId} {K : Act → World → Prop} {i : Nat}
theorem OT.store (f : Fr n a l) (hio : ops[i]? = some ⟨none, .store t x y, ty, ps, af, gd⟩) (hw : Region.wanted ⟨none, .store t x y, ty, ps, af, gd⟩ (yielded ops a.tmps) = true) (hi : (P.info? t).map (·.size) = some 1) {g o : Nat} {e : TypeId} {cs : Array Value} (hx : evl l x = some (.pointer (some ⟨g, o, none⟩))) (hy : evl l y = some v) (h1 : v.oneCell' = true)
    (B : Blk w g e cs) (ho : o < cs.size) (hK : ∀ a' w',Fr n a' l → Blk w' g e (cs.setIfInBounds o v) → Kept [g] w w' → K a' w') : wpOp P ops Q i (fun a w=>True ∧ K a w) a w:=
  O.act (S:=fun _=>True) f hio rfl hw (E.store f hi hx hy h1 (B.cell_ (Array.getElem?_eq_getElem ho)) (B.frozen o)) trivial fun a' f'=>hK a' _ f' (B.set_ o v) (setCell_kept w g o v)
theorem OT.storeR (f : Fr n a l) (hio : ops[i]? = some ⟨none, .store t x y, ty, ps, af, gd⟩) (hw : Region.wanted ⟨none, .store t x y, ty, ps, af, gd⟩ (yielded ops a.tmps) = true) {g : Nat} {e : TypeId} {cs cs' : Array Value} {s : Nat} (hi : (P.info? t).map (·.size) = some s) (hx : evl l x = some (.pointer (some ⟨g, 0, none⟩))) (hy : evl l y = some (.agg cs')) (h1 : cs'.toList.all (·.oneCell') = true)
    (B : Blk w g e cs) (hs : cs'.size = cs.size) (hl : cs'.size = s) (hK : ∀ a' w',Fr n a' l → Blk w' g e cs' → Kept [g] w w' → K a' w') : wpOp P ops Q i (fun a w=>True ∧ K a w) a w:=
  O.act (S:=fun _=>True) f hio rfl hw (E.storeR f (hl ▸ hi) hx hy (by simpa using h1) (B.there (by omega))) trivial fun a' f'=>hK a' _ f' (setCells_blk B cs' hs) (setCells_kept w g 0 _)
end
theorem own_ne {w : World} {e t : TypeId} {size n c k g : Nat} {A : Option Addr} {xs : List Value} {cs : Array Value} (ho : Own w e size (.slice A n c) k xs) (h : Blk w g t cs) (hte : t ≠ e) : g ∉ (Value.slice A n c).ownBlock.toList:=fun hx=>by
  obtain ⟨_,cs',h2⟩:=ho.blk g (by simpa using hx)
  unfold Blk at h
  rw [h] at h2
  injection h2 with h2
  injection h2 with _ h3 _
  exact hte h3
end Go.Hub
namespace Go.Hub
open Go.RowKit
section
variable {P : Program} {ops : Array Oper} {rest : List Oper} {a : Act} {w : World} {Q : Exit → Act → World → Prop} {n d : Nat} {l : FL} {v : Value} {ty : TypeId} {ps : String} {af : Array Edge} {gd : Option (Nat × Bool)} {x y : Operand} {t : TypeId}
theorem L.storeO (f : Fr n a l) (hw : Region.wanted ⟨none, .store t x y, ty, ps, af, gd⟩ (yielded ops a.tmps) = true) (hi : (P.info? t).map (·.size) = some 1) {b off o j : Nat} {e : TypeId} {size k c : Nat} {A : Option Addr} {xs : List Value} (hA : A = some ⟨b, off, none⟩) (O : Own w e size (.slice A k c) k xs) (hx : evl l x = some (.pointer (some ⟨b, o, none⟩))) (ho : o = off + j) (hj : j < xs.length) (hy : evl l y = some v) (h1 : v.oneCell' = true)
    (hK : ∀ a' w',Fr n a' l → Own w' e size (.slice A k c) k (xs.set j v) → Kept [b] w w' → wpList P ops Q rest a' w') : wpList P ops Q (⟨none,.store t x y,ty,ps,af,gd⟩ :: rest) a w:=by
  subst ho;obtain ⟨⟨old,h2⟩,h3,h4⟩:=O.set_ hA hj v;exact L.act f hw rfl (E.store f hi hx hy h1 h2 h3) fun a' f'=>hK a' _ f' h4 (setCell_kept w b _ v)
end
end Go.Hub
namespace Go.Hub
open Go.RowKit
structure Sp where
  l : Int
  c : Int
  node : Int
deriving DecidableEq
abbrev scell (s : Sp) : List Value:=[.int .i64 s.l,.int .i64 s.c,.int .i64 s.node]
def nearI (v : Int) : Int:=min (max v 0) 4611686018427387904
def or3 (x y z : Int) : Int:=if x = 0 then (if y = 0 then z else y) else x
def ltS (a b : Sp) : Prop:=nearI a.l < nearI b.l ∨ (nearI a.l = nearI b.l ∧ (nearI a.c < nearI b.c ∨ (nearI a.c = nearI b.c ∧ a.node < b.node)))
instance (a b : Sp) : Decidable (ltS a b):=by unfold ltS; exact inferInstance
theorem less_is (a b : Sp) : decide (or3 (cmpI (nearI a.l) (nearI b.l)) (cmpI (nearI a.c) (nearI b.c)) (cmpI a.node b.node) < 0) = decide (ltS a b):=by
  apply decide_eq_decide.2
  unfold or3 cmpI ltS
  repeat' split
  all_goals omega
structure Ce where
  d : Dt
  s : Sp
  topic : ByteArray
  pay : List UInt8
  qos : Int
  gone : Bool
structure Cp where
  x : Ce
  A : Option Addr
  c : Nat
abbrev pcell (p : Cp) : List Value:=[.int .i64 p.x.d.node,.int .i64 p.x.d.epoch,.int .i64 p.x.d.n,.int .i64 p.x.s.l,.int .i64 p.x.s.c,.int .i64 p.x.s.node,.string p.x.topic,.slice p.A p.x.pay.length p.c,.int .i64 p.x.qos,.bool p.x.gone]
def pcells (l : List Cp) : List Value:=l.flatMap pcell
theorem pcells_len (l : List Cp) : (pcells l).length = l.length * 10:=flat_len pcell 10 (fun _=>rfl) l
theorem pcells_at (l : List Cp) (i : Nat) (p : Cp) (h : l[i]? = some p) : ∀ j u,(pcell p)[j]? = some u → (pcells l)[i * 10 + j]? = some u:=fun j u hu=>flat_at pcell 10 (fun _=>rfl) l i p h j u hu
theorem pcells_one (l : List Cp) : ∀ u ∈ pcells l,u.oneCell' = true:=fun u hu=>by
  unfold pcells at hu
  simp at hu
  obtain ⟨p,_,rfl | rfl | rfl | rfl | rfl | rfl | rfl | rfl | rfl | rfl⟩:=hu <;> rfl
theorem pcells_append (l r : List Cp) : pcells (l ++ r) = pcells l ++ pcells r:=by simp [pcells]
theorem pcells_cons (p : Cp) (r : List Cp) : pcells (p :: r) = pcell p ++ pcells r:=rfl
theorem pcells_take : ∀ (l : List Cp) (i : Nat), (pcells l).take (i * 10) = pcells (l.take i)
  | [],i=>by simp [pcells]
  | p :: l,0=>by simp [pcells]
  | p :: l,i + 1=>by
    rw [List.take_succ_cons,pcells_cons,pcells_cons,List.take_append,show (pcell p).length = 10 from rfl,show (i + 1) * 10 - 10 = i * 10 by omega,pcells_take l i,List.take_of_length_le (by show 10 ≤ _; omega)]
theorem pcells_drop : ∀ (l : List Cp) (i : Nat), pcells (l.drop i) = (pcells l).drop (i * 10)
  | [],i=>by simp [pcells]
  | p :: l,0=>by simp [pcells]
  | p :: l,i + 1=>by
    rw [List.drop_succ_cons,pcells_cons,List.drop_append,show (pcell p).length = 10 from rfl,show (i + 1) * 10 - 10 = i * 10 by omega,pcells_drop l i,List.drop_eq_nil_of_le (show (pcell p).length ≤ (i + 1) * 10 by show 10 ≤ _; omega),List.nil_append]
def newerB (a b : Ce) : Bool:=decide (ltS b.s a.s) || (!decide (ltS a.s b.s) && decide (lt3 b.d a.d))
structure PayOk (w : World) (p : Cp) : Prop where
  sl : Sl w p.A p.x.pay.length 1 (p.x.pay.map u8)
  typ : 0 < p.x.pay.length → ∀ a,p.A = some a → Typ w a.block [5]
  cap : p.x.pay.length ≤ p.c
section
variable {w w' : World} {p : Cp} {A : Option Addr} {l : List Cp} {L : List Nat} {g t : Nat} {cs : Array Value}
theorem Typ.kept {k : Nat} {E : List TypeId} (h : Typ w k E) (hk : Kept L w w') (hn : k ∉ L) : Typ w' k E:=h.of_eq (hk.block k h.lt hn)
theorem PayOk.keptF (h : PayOk w p) (hk : Kept L w w') (hL : ∀ k ∈ L,¬ Typ w k [5]) : PayOk w' p:=by
  by_cases hn : 0 < p.x.pay.length
  · have ht := h.typ hn
    have hf : Far p.A L:=fun a ha hm=>hL _ hm (ht a ha);exact ⟨h.sl.keptF hk hf,fun _ a ha=>(ht a ha).kept hk (hf a ha),h.cap⟩
  have e : p.x.pay = []:=List.eq_nil_of_length_eq_zero (by omega);have hs : Sl w' p.A p.x.pay.length 1 (p.x.pay.map u8):=by rw [e]; exact Sl.nil _ _ _
  exact ⟨hs,fun h'=>absurd h' hn,h.cap⟩
theorem PayOk.kept (h : PayOk w p) (hk : Kept [] w w') : PayOk w' p:=h.keptF hk (by simp)
structure PayS (w : World) (p : Cp) : Prop where
  sl : Sl w p.A p.x.pay.length 1 (p.x.pay.map u8)
  cap : p.x.pay.length ≤ p.c
theorem PayOk.s (h : PayOk w p) : PayS w p:=⟨h.sl,h.cap⟩
theorem PayS.kept (h : PayS w p) (hk : Kept [] w w') : PayS w' p:=⟨h.sl.kept hk,h.cap⟩
theorem PayS.keptB {B : Nat} (h : PayS w p) (hk : Kept [g] w w') (ho : 0 < p.x.pay.length → ∀ a,p.A = some a → a.block < B) (hg : B ≤ g) : PayS w' p:=by
  by_cases hn : 0 < p.x.pay.length
  · exact ⟨h.sl.keptF hk (fun a ha hm=>by
      have h1:=ho hn a ha;have h2:=List.mem_singleton.1 hm
      omega),h.cap⟩
  have e : p.x.pay = []:=List.eq_nil_of_length_eq_zero (by omega);have hs : Sl w' p.A p.x.pay.length 1 (p.x.pay.map u8):=by rw [e]; exact Sl.nil _ _ _
  exact ⟨hs,h.cap⟩
theorem PayS.lt (h : PayS w p) (h0 : 0 < p.x.pay.length) : ∀ a,p.A = some a → a.block < w.heap.size:=fun a ha=>by
  obtain ⟨b,off,e,hb,_⟩:=h.sl.2 h0
  rw [ha] at e
  injection e with e
  subst e
  exact hb
theorem not_typ (h : w.heap[g]? = some (.cells cs t (0,0))) (ht : t ≠ 5) : ¬ Typ w g [5]:=by
  rintro ⟨cs',e,f,h',he⟩;rw [h] at h'
  injection h' with h'
  injection h' with _ h2 _
  subst h2;simp at he;exact ht he
theorem PayOk.kept1 (h : PayOk w p) (hk : Kept [g] w w') (hg : w.heap[g]? = some (.cells cs t (0,0))) (ht : t ≠ 5) : PayOk w' p:=h.keptF hk (by intro k hm; obtain rfl:=List.mem_singleton.1 hm; exact not_typ hg ht)
theorem Blk.part {ca : Array Value} (h : Blk w g t ca) (o : Nat) (cs' : List Value) (hc : (ca.toList.drop o).take cs'.length = cs') : w.rangeAt g o cs':=fun j v hv=>by
  refine h.cl (i:=o + j) ?_
  have e : (ca.toList.drop o)[j]? = some v:=by
    rw [← hc] at hv;rw [List.getElem?_take] at hv
    split at hv
    · exact hv
    cases hv
  rw [List.getElem?_drop] at e;exact e
def Cs (w : World) (A : Option Addr) (l : List Cp) : Prop:=Sl w A l.length 10 (pcells l)
theorem Cs.kept (h : Cs w A l) (hk : Kept [] w w') : Cs w' A l:=Sl.kept h hk
theorem Cs.row (h : Cs w A l) {b off i : Nat} {p : Cp} (hA : A = some ⟨b,off,none⟩) (hd : l[i]? = some p) : w.rangeAt b (off + i * 10) (pcell p):=
  Sl.row h (by have:=(List.getElem?_eq_some_iff.1 hd).1; omega) hA (pcells_at l i p hd)
theorem Cs.addr (h : Cs w A l) {i : Nat} (hi : i < l.length) : ∃ b off,A = some ⟨b,off,none⟩:=Sl.addr h (by omega)
theorem Cs.nil (w : World) (A : Option Addr) : Cs w A []:=Sl.nil w A 10
theorem Fresh.pay {w0 : World} {n c : Nat} {A : Option Addr} {x : Ce} (h : Fresh w0 w 5 1 A n c (x.pay.map u8)) (hn : x.pay.length = n) : PayOk w ⟨x,A,c⟩:=by
  subst hn;refine ⟨h.sl,fun _ a ha=>?_,?_⟩
  · obtain ⟨_, cs, e⟩ := h.own.blk a.block (by show Value.ownBlock (.slice A _ _) = _; rw [show A = some a from ha]; rfl)
    exact ⟨cs,5,_,e,by simp⟩
  obtain ⟨A',c',e,h1,_⟩:=h.own.form
  injection e with _ _ e3
  subst e3;exact h1
end
def ltB (a b : ByteArray) : Prop:=Op.bytesLess a.toList b.toList = true
instance (a b : ByteArray) : Decidable (ltB a b):=by unfold ltB; exact inferInstance
theorem bytesLess_is : ∀ (x y : List UInt8), Op.bytesLess x y = decide (x < y)
  | [],[]=>by simp [Op.bytesLess]
  | _ :: _,[]=>by simp [Op.bytesLess]
  | [],_ :: _=>by simp [Op.bytesLess]
  | a :: x,b :: y=>by
    rw [Op.bytesLess,bytesLess_is x y]
    simp only [List.cons_lt_cons_iff]
    by_cases h1 : a < b <;> by_cases h2 : a = b <;> by_cases h3 : x < y <;> simp [h1,h2,h3]
theorem ltB_iff (a b : ByteArray) : ltB a b ↔ a.toList < b.toList:=by unfold ltB; rw [bytesLess_is]; simp
theorem ltB_trans {a b c : ByteArray} (h : ltB a b) (k : ltB b c) : ltB a c:=by rw [ltB_iff] at *; exact List.lt_trans h k
theorem ltB_irrefl (a : ByteArray) : ¬ ltB a a:=by rw [ltB_iff]; exact List.lt_irrefl _
theorem ltB_total {a b : ByteArray} (h : ¬ ltB a b) (k : ¬ ltB b a) : a = b:=by
  rw [ltB_iff] at *;have e:=List.le_antisymm (show a.toList ≤ b.toList from k) (show b.toList ≤ a.toList from h);rw [ByteArray.toList_eq,ByteArray.toList_eq] at e;exact ByteArray.ext (Array.ext' e)
def cmpS (a b : ByteArray) : Int:=if ltB a b then -1 else if ltB b a then 1 else 0
theorem cmpS_lt (a b : ByteArray) : cmpS a b < 0 ↔ ltB a b:=by unfold cmpS; repeat' split <;> simp_all
theorem cmpS_eq (a b : ByteArray) : cmpS a b = 0 ↔ a = b:=by
  unfold cmpS
  split
  · rename_i h
    exact ⟨fun e=>absurd e (by omega),fun e=>absurd (e ▸ h) (ltB_irrefl _)⟩
  split
  · rename_i h
    exact ⟨fun e=>absurd e (by omega),fun e=>absurd (e ▸ h) (ltB_irrefl _)⟩
  rename_i h1 h2
  exact ⟨fun _=>ltB_total h1 h2,fun _=>rfl⟩
def Asc (l : List Cp) : Prop:=∀ (i j : Nat) (a b : Cp),i < j → l[i]? = some a → l[j]? = some b → ltB a.x.topic b.x.topic
structure SrchC (l : List Cp) (n : ByteArray) (i : Nat) (b : Bool) : Prop where
  le : i ≤ l.length
  lo : ∀ (k : Nat) (a : Cp),k < i → l[k]? = some a → ltB a.x.topic n
  hi : ∀ (k : Nat) (a : Cp),i ≤ k → l[k]? = some a → ¬ ltB a.x.topic n
  is : b = true ↔ ∃ a,l[i]? = some a ∧ a.x.topic = n
structure HalfC (l : List Cp) (n : ByteArray) (i j : Nat) : Prop where
  ij : i ≤ j
  jn : j ≤ l.length
  lo : ∀ (k : Nat) (a : Cp),k < i → l[k]? = some a → ltB a.x.topic n
  hi : ∀ (k : Nat) (a : Cp),j ≤ k → l[k]? = some a → ¬ ltB a.x.topic n
section
variable {l : List Cp} {n : ByteArray} {a m : Cp} {i j h : Nat}
theorem HalfC.start (l : List Cp) (n : ByteArray) : HalfC l n 0 l.length:=⟨Nat.zero_le _,Nat.le_refl _,fun k a h=>by omega,fun k a h hk=>by have:=(List.getElem?_eq_some_iff.1 hk).1; omega⟩
theorem HalfC.right (H : HalfC l n i j) (hr : Asc l) (h1 : i ≤ h) (h2 : h < j) (ha : l[h]? = some a) (hl : ltB a.x.topic n) : HalfC l n (h + 1) j:=
  ⟨by omega,H.jn,fun k b hk hb=>by
    by_cases e : k = h
    · subst e
      rw [ha] at hb
      injection hb with hb
      exact hb ▸ hl
    exact ltB_trans (hr k h b a (by omega) hb ha) hl,H.hi⟩
theorem HalfC.left (H : HalfC l n i j) (hr : Asc l) (h1 : i ≤ h) (h2 : h < j) (ha : l[h]? = some a) (hl : ¬ ltB a.x.topic n) : HalfC l n i h:=
  ⟨h1,by have:=H.jn; omega,H.lo,fun k b hk hb=>by
    by_cases e : k = h
    · subst e
      rw [ha] at hb
      injection hb with hb
      exact hb ▸ hl
    exact fun hc=>hl (ltB_trans (hr h k a b (by omega) ha hb) hc)⟩
theorem HalfC.found {b : Bool} (H : HalfC l n i i) (hb : b = true ↔ ∃ a,l[i]? = some a ∧ a.x.topic = n) : SrchC l n i b:=⟨H.jn,H.lo,H.hi,hb⟩
theorem HalfC.found1 (H : HalfC l n i i) (hd : l[i]? = some m) : SrchC l n i (decide (cmpS m.x.topic n = 0)):=H.found (by
  rw [decide_eq_true_iff,cmpS_eq]
  exact ⟨fun e=>⟨m,hd,e⟩,fun ⟨a,h1,h2⟩=>by rw [hd] at h1; injection h1 with h1; exact h1 ▸ h2⟩)
theorem HalfC.found0 (H : HalfC l n i i) (hd : l[i]? = none) : SrchC l n i false:=H.found (by simp [hd])
end
end Go.Hub
namespace Go.Hub
open Go.RowKit
section
variable {w : World} {e : TypeId} {size n c g off : Nat} {xs : List Value}
theorem Own.room (h : Own w e size (.slice (some ⟨g,off,none⟩) n c) n xs) {j : Nat} (hj : j < c * size) : (w.cell? ⟨g,off + j,none⟩).isSome = true ∧ w.frozen? ⟨g,off + j,none⟩ = false:=by
  rcases h.2 with ⟨hv,_⟩ | ⟨g',off',cap',cur,hv,hg,hnc,hcm,hcs,hc⟩
  · cases hv
  injection hv with e1 e2 e3
  injection e1 with e1
  injection e1 with e4 e5
  subst e4 e5 e3;rw [cell_of_row w g _ cur e (0,0) hg,Array.getElem?_eq_getElem (by omega)];exact ⟨rfl,by simp [World.frozen?,hg]⟩
end
end Go.Hub
namespace Go.Hub
open Go.RowKit
section
variable {w : World} {e : TypeId} {size n c g off : Nat} {xs : List Value}
theorem Own.seg (h : Own w e size (.slice (some ⟨g, off, none⟩) n c) n xs) {j : Nat} (vs : List Value) (hj : j + vs.length ≤ xs.length) :
    Own (w.setCells g (off + j) vs) e size (.slice (some ⟨g,off,none⟩) n c) n (setSeg xs j vs) ∧ Kept [g] w (w.setCells g (off + j) vs):=by
  have K:=setCells_kept w g (off + j) vs;refine ⟨⟨by rw [setSeg_len]; exact h.1,?_⟩,K⟩
  rcases h.2 with ⟨hv,_⟩ | ⟨g',off',cap',cur,hv,hg,hnc,hcm,hcs,hc⟩
  · cases hv
  injection hv with e1 e2 e3
  injection e1 with e1
  injection e1 with e4 e5
  subst e4 e5 e3;obtain ⟨cur',a1,a2,a3,a4⟩:=setCells_block g vs (off + j) w cur e (0,0) hg;refine .inr ⟨g,off,c,cur',rfl,a1,hnc,hcm,by omega,fun i u hu=>?_⟩;have hx:=h.1;have hn : n * size ≤ c * size:=Nat.mul_le_mul_right _ hnc
  have hi : i < xs.length:=by
    have:=(List.getElem?_eq_some_iff.1 hu).1
    rwa [setSeg_len] at this
  rw [setSeg_at _ _ _ _ hj] at hu
  by_cases hin : j ≤ i ∧ i < j + vs.length
  · rw [if_pos hin] at hu
    have:=a4 (i - j) u hu (by omega)
    rwa [show off + j + (i - j) = off + i by omega] at this
  · rw [if_neg hin] at hu
    have h1:=World.cell?_setCells_out g vs (off + j) w ⟨g,off + i,none⟩ (fun _ _=>by show off + i < off + j ∨ off + j + vs.length ≤ off + i; omega);rw [cell_of_row _ g (off + i) cur' e (0,0) a1,cell_of_row w g (off + i) cur e (0,0) hg] at h1;rw [h1];exact hc i u hu
theorem Own.more (h : Own w e size (.slice (some ⟨g,off,none⟩) n c) n xs) {k : Nat} (hk : n + k ≤ c) : ∃ ys,ys.length = k * size ∧ Own w e size (.slice (some ⟨g,off,none⟩) (n + k) c) (n + k) (xs ++ ys):=by
  rcases h.2 with ⟨hv,_⟩ | ⟨g',off',cap',cur,hv,hg,hnc,hcm,hcs,hc⟩
  · cases hv
  injection hv with e1 e2 e3
  injection e1 with e1
  injection e1 with e4 e5
  subst e4 e5 e3;have hx:=h.1;have hn : (n + k) * size ≤ c * size:=Nat.mul_le_mul_right _ hk;rw [Nat.add_mul] at hn;refine ⟨(cur.toList.drop (off + n * size)).take (k * size),by simp; omega,by rw [List.length_append,hx,Nat.add_mul]; simp; omega,.inr ⟨g,off,c,cur,rfl,hg,hk,hcm,hcs,fun j u hu=>?_⟩⟩
  rcases Nat.lt_or_ge j xs.length with hj | hj
  · rw [List.getElem?_append_left hj] at hu
    exact hc j u hu
  · rw [List.getElem?_append_right hj, List.getElem?_take] at hu
    split at hu
    · rw [List.getElem?_drop] at hu
      rw [show off + n * size + (j - xs.length) = off + j by omega] at hu
      simpa using hu
    · cases hu
theorem Own.cutA (h : Own w e size (.slice (some ⟨g,off,none⟩) n c) n xs) {k : Nat} (hk : k ≤ n) (hc : c ≠ k) : Own w e size (.slice (some ⟨g,off + k * size,none⟩) (n - k) (c - k)) (n - k) (xs.drop (k * size)):=by
  have:=h.cut hk;rw [if_neg hc] at this
  simpa only [Option.map_some,add_none] using this
end
section
variable {P : Program} {w : World}
theorem run_copyR (t ty e : TypeId) (size : Nat) (ht : P.underlying t = some (.slice e)) (hs : (P.info? e).map (·.size) = some size) {g o dl dc m c : Nat} {S : Option Addr} {xs vs : List Value} (hsrc : Sl w S m size xs) (hm : 0 < m) (hv : vs = xs.take (Nat.min m dl * size))
    (hc : ∀ j,j < vs.length → (w.cell? ⟨g,o + j,none⟩).isSome = true) (hf : ∀ j,j < vs.length → w.frozen? ⟨g,o + j,none⟩ = false) (h1 : ∀ v ∈ vs,v.oneCell' = true) :
    (Builtin.copy_ #[t,t] ty #[.slice (some ⟨g,o,none⟩) dl dc,.slice S m c]).run P w = .ok (goInt (Nat.min m dl)) (w.setCells g o vs):=by
  obtain ⟨b,off,rfl,_,hcell⟩:=hsrc.2 hm
  have hlen : vs.length = Nat.min m dl * size:=by
    rw [hv,List.length_take,hsrc.1];exact Nat.min_eq_left (Nat.mul_le_mul_right _ (Nat.min_le_left _ _))
  have hl:=run_loadCells_list (P:=P) w ⟨b,off,none⟩ vs (fun j v hj=>by
    rw [add_none];refine hcell j v ?_;rw [hv,List.getElem?_take] at hj
    split at hj
    · exact hj
    · cases hj)
  have hst:=run_storeCells_cells (P:=P) g o vs 0 w (by simpa using hc) (by simpa using hf) h1;rw [hlen] at hl
  cases hq : P.info? e with
  | none=>simp [hq] at hs
  | some i=>
    have hi : i.size = size:=by simpa [hq] using hs
    simp [Builtin.copy_,run_underlying ht,Builtin.lenOf,Builtin.firstCells,sizeOf,typeInfo,hq,hi,hl,hst]
end
section
variable {P : Program} {ops : Array Oper} {rest : List Oper} {a : Act} {w : World} {Q : Exit → Act → World → Prop} {n d : Nat} {l : FL} {ty : TypeId} {ps : String} {af : Array Edge} {gd : Option (Nat × Bool)} {x y : Operand} {t : TypeId}
theorem L.copyR (f : Fr n a l) (hw : Region.wanted ⟨some d, .call { callee := .builtin .copy, args := #[x, y], argTypes := #[t, t] }, ty, ps, af, gd⟩ (yielded ops a.tmps) = true) (hn : d < n) {e size g o off dl dc m c j N C : Nat} {S : Option Addr} {xs vs ys : List Value} (ht : P.underlying t = some (.slice e)) (hs : (P.info? e).map (·.size) = some size)
    (hx : evl l x = some (.slice (some ⟨g,o,none⟩) dl dc)) (hy : evl l y = some (.slice S m c)) (hown : Own w e size (.slice (some ⟨g,off,none⟩) N C) N ys) (ho : o = off + j) (hsrc : Sl w S m size xs) (hm : 0 < m) (hv : vs = xs.take (Nat.min m dl * size)) (hj : j + vs.length ≤ ys.length) (h1 : ∀ v ∈ vs,v.oneCell' = true)
    (hK : ∀ a' w',Own w' e size (.slice (some ⟨g,off,none⟩) N C) N (setSeg ys j vs) → Kept [g] w w' → Fr n a' ((d,goInt (Nat.min m dl)) :: l) → wpList P ops Q rest a' w') : wpList P ops Q (⟨some d,.call { callee:=.builtin .copy,args:=#[x,y],argTypes:=#[t,t] },ty,ps,af,gd⟩ :: rest) a w:=by
  subst ho
  have hr : ∀ i,i < vs.length → (w.cell? ⟨g,off + j + i,none⟩).isSome = true ∧ w.frozen? ⟨g,off + j + i,none⟩ = false:=fun i hi=>by
    have hx:=hown.1
    have hnc : N ≤ C:=by
      rcases hown.2 with ⟨hv,_⟩ | ⟨g',off',cap',cur,hv,_,hnc,_⟩
      · cases hv
      · injection hv with _ _ e3; subst e3; exact hnc
    have hn : N * size ≤ C * size:=Nat.mul_le_mul_right _ hnc;have:=hown.room (j:=j + i) (by omega)
    rwa [← Nat.add_assoc] at this
  have hrun:=run_copyR (P:=P) t ty e size ht hs hsrc hm hv (dc:=dc) (c:=c) (g:=g) (o:=off + j) (fun i hi=>(hr i hi).1) (fun i hi=>(hr i hi).2) h1;obtain ⟨h2,h3⟩:=hown.seg vs hj;refine L.val (v:=goInt (Nat.min m dl)) f hw rfl hn ?_ fun a' f'=>hK a' _ h2 h3 f';simp [execOp,resolve,invoke,builtin,f.ev hx,f.ev hy,hrun]
end
section
variable {P : Program} {ops : Array Oper} {rest : List Oper} {a : Act} {w : World} {Q : Exit → Act → World → Prop} {n d : Nat} {l : FL} {dst : Option Nat} {ty : TypeId} {ps : String} {af : Array Edge} {gd : Option (Nat × Bool)} {x y : Operand} {t tn : TypeId}
theorem E.capL (f : Fr n a l) {e : TypeId} {A : Option Addr} {m c : Nat} (ht : P.underlying t = some (.slice e)) (hx : evl l x = some (.slice A m c)) : (execOp a.eval ⟨dst,.call { callee:=.builtin .cap,args:=#[x],argTypes:=#[t] },ty,ps,af,gd⟩).run P w = .ok (.value (.int .i64 c)) w:=by
  simp [execOp,resolve,invoke,builtin,f.ev hx,Builtin.cap_,run_underlying ht,goInt]
theorem L.appendZ (f : Fr n a l) (hw : Region.wanted ⟨some d, .call { callee := .builtin .append, args := #[x, y], argTypes := #[t, tn] }, ty, ps, af, gd⟩ (yielded ops a.tmps) = true) (hn : d < n) {e size bytes k c m : Nat} {z : Value} {A : Option Addr} {xs : List Value} {kq kn : IntKind} {j : Int} (ht : P.underlying t = some (.slice e)) (htn : P.underlying tn = some (.int kn)) (hi : (P.info? e).map (fun i => (i.zero, i.size, i.bytes)) = some (some z, size, bytes)) (hzs : z.cells.size = size) (hsz : Nat.blt 0 size = true)
    (hx : evl l x = some (.slice A k c)) (hy : evl l y = some (.int kq j)) (hown : Own w e size (.slice A k c) k xs) (hj : j = m) (hm : 0 < m) (hg : c < k + m) (h63 : k + m ≤ 4611686018427387904) (hb : (k + m) * bytes ≤ 70368744177664)
    (hK : ∀ a' w' g c',Own w' e size (.slice (some ⟨g,0,none⟩) (k + m) c') (k + m) (xs ++ (Builtin.zeroCells z.cells m).toList) → w.heap.size ≤ g → Kept [] w w' → Fr n a' ((d,.slice (some ⟨g,0,none⟩) (k + m) c') :: l) → wpList P ops Q rest a' w') : wpList P ops Q (⟨some d,.call { callee:=.builtin .append,args:=#[x,y],argTypes:=#[t,tn] },ty,ps,af,gd⟩ :: rest) a w:=by
  subst hj
  cases hq : P.info? e with
  | none=>simp [hq] at hi
  | some i=>
    have hi' : i.zero = some z ∧ i.size = size ∧ i.bytes = bytes:=by simpa [hq] using hi
    obtain ⟨hz,hs,hby⟩:=hi';subst hs hby;have hs0 : 0 < i.size:=Nat.le_of_ble_eq_true hsz
    have hfc : (Builtin.firstCells i.size k (.slice A k c)).run P w.drew = .ok xs.toArray w.drew:=by
      rcases A with _ | ad
      · have hk : k = 0:=by
          rcases hown.2 with ⟨_,h0⟩ | ⟨g,off,cap,cur,hv,_⟩
          · exact h0
          · cases hv
        subst hk;have hx0 : xs = []:=List.eq_nil_of_length_eq_zero (by simpa using hown.1);subst hx0;simp [Builtin.firstCells]
      · rcases hown.2 with ⟨hv, _⟩ | ⟨g, off, cap, cur, hv, hgd, hnc, hcm, hcs, hc⟩
        · cases hv
        injection hv with e1 e2 e3
        injection e1 with e1
        subst e1 e3
        have:=run_loadCells_list (P:=P) w.drew ⟨g,off,none⟩ xs (fun j v hj=>by
          rw [add_none];have h1:=cell_of_row w g (off + j) cur e (0,0) hgd;show w.cell? _ = _;rw [h1]
          exact hc j v hj)
        rw [hown.1] at this
        simpa [Builtin.firstCells] using this
    have hgrow : Builtin.nextslicecap (k + m) c * i.bytes ≤ 281474976710656:=growslice_fits hg (by omega)
    have hrun:=Lib.run_append_grow_zeros (P:=P) w t tn ty e i z kq kn ht htn hq hz A k c xs hfc m hm hs0 hg (by omega) (by
      have : m * i.bytes ≤ (k + m) * i.bytes:=Nat.mul_le_mul_right _ (by omega)
      omega) hgrow
    have hcap : k + m ≤ grownCap w (k + m) c e ∧ grownCap w (k + m) c e ≤ maxLen:=⟨grownCap_ge w _ _ _,grownCap_le_maxLen w _ _ _ (by unfold maxLen; omega)⟩;refine L.val (v:=.slice (some ⟨w.heap.size,0,none⟩) (k + m) (grownCap w (k + m) c e)) (w':=w.drew.alloc (.cells (xs.toArray ++ Builtin.zeroCells z.cells m ++ Builtin.zeroCells z.cells (grownCap w (k + m) c e - (k + m))) e)) f hw rfl hn (by simp [execOp,resolve,invoke,builtin,f.ev hx,f.ev hy,hrun]) fun a' f'=>hK a' _ _ _ ?_ (Nat.le_refl _) ((Kept.refl [] w).drew.alloc _) f';have hxl:=hown.1;refine ⟨by rw [List.length_append,hxl,Nat.add_mul]; simp [Builtin.zeroCells,hzs],.inr ⟨w.heap.size,0,_,_,rfl,heap_alloc_new w.drew _,hcap.1,hcap.2,?_,fun j u hu=>?_⟩⟩
    · simp [Builtin.zeroCells, hzs, hxl]
      rw [← Nat.add_mul,← Nat.add_mul];exact Nat.mul_le_mul_right _ (by omega)
    · rw [Nat.zero_add]
      have hj:=(List.getElem?_eq_some_iff.1 hu).1;rw [List.length_append] at hj
      have h1 : (xs.toArray ++ Builtin.zeroCells z.cells m ++ Builtin.zeroCells z.cells (grownCap w (k + m) c e - (k + m)))[j]? = (xs ++ (Builtin.zeroCells z.cells m).toList)[j]?:=by
        rw [Array.getElem?_append_left (by simpa using hj),← Array.getElem?_toList]
        simp
      rw [h1];exact hu
end
section
variable {P : Program} {a : Act} {w : World} {n : Nat} {l : FL} {dst : Option Nat} {ty : TypeId} {ps : String} {af : Array Edge} {gd : Option (Nat × Bool)} {x y : Operand} {t : TypeId}
theorem E.slA (f : Fr n a l) {e : TypeId} {g off m c s k : Nat} {i : Int} {ki : IntKind} (ht : P.underlying t = some (.slice e)) (hs : (P.info? e).map (·.size) = some s) (hx : evl l x = some (.slice (some ⟨g, off, none⟩) m c)) (hy : evl l y = some (.int ki i)) (hk : i = k) (h1 : k ≤ m) (hc : c ≠ k) :
    (execOp a.eval ⟨dst,.slice t x (some y) none none,ty,ps,af,gd⟩).run P w = .ok (.value (.slice (some ⟨g,off + k * s,none⟩) (m - k) (c - k))) w:=by
  subst hk;have h:=E.slLlo (P:=P) (w:=w) (dst:=dst) (ty:=ty) (ps:=ps) (af:=af) (g:=gd) f ht hs hx hy (by omega) (by omega);rw [Int.toNat_natCast,if_neg hc] at h
  simpa only [Option.map_some,add_none] using h
end
section
variable {P : Program} {ops : Array Oper} {a : Act} {w : World} {Q : Exit → Act → World → Prop} {n d q : Nat} {l : FL} {ty : TypeId} {ps : String} {af : Array Edge} {gd : Option (Nat × Bool)} {x y : Operand} {t : TypeId} {Sw : World → Prop} {K : Act → World → Prop}
theorem O.copyR (f : Fr n a l) (hq : ops[q]? = some ⟨some d, .call { callee := .builtin .copy, args := #[x, y], argTypes := #[t, t] }, ty, ps, af, gd⟩) (hw : Region.wanted ⟨some d, .call { callee := .builtin .copy, args := #[x, y], argTypes := #[t, t] }, ty, ps, af, gd⟩ (yielded ops a.tmps) = true) (hn : d < n) {e size g o off dl dc m c j N C : Nat} {S : Option Addr} {xs vs ys : List Value} (ht : P.underlying t = some (.slice e)) (hs : (P.info? e).map (·.size) = some size)
    (hx : evl l x = some (.slice (some ⟨g,o,none⟩) dl dc)) (hy : evl l y = some (.slice S m c)) (hown : Own w e size (.slice (some ⟨g,off,none⟩) N C) N ys) (ho : o = off + j) (hsrc : Sl w S m size xs) (hm : 0 < m) (hv : vs = xs.take (Nat.min m dl * size)) (hj : j + vs.length ≤ ys.length) (h1 : ∀ v ∈ vs,v.oneCell' = true)
    (hSw : ∀ w',Kept [g] w w' → Sw w') (hK : ∀ a' w',Own w' e size (.slice (some ⟨g,off,none⟩) N C) N (setSeg ys j vs) → Kept [g] w w' → Fr n a' ((d,goInt (Nat.min m dl)) :: l) → K a' w') : wpOp P ops Q q (fun a w=>Sw w ∧ K a w) a w:=by
  subst ho
  have hr : ∀ i,i < vs.length → (w.cell? ⟨g,off + j + i,none⟩).isSome = true ∧ w.frozen? ⟨g,off + j + i,none⟩ = false:=fun i hi=>by
    have hx:=hown.1
    have hnc : N ≤ C:=by
      rcases hown.2 with ⟨hv,_⟩ | ⟨g',off',cap',cur,hv,_,hnc,_⟩
      · cases hv
      · injection hv with _ _ e3; subst e3; exact hnc
    have hn : N * size ≤ C * size:=Nat.mul_le_mul_right _ hnc;have:=Own.room hown (j:=j + i) (by omega)
    rwa [← Nat.add_assoc] at this
  have hrun:=run_copyR (P:=P) t ty e size ht hs hsrc hm hv (dc:=dc) (c:=c) (g:=g) (o:=off + j) (fun i hi=>(hr i hi).1) (fun i hi=>(hr i hi).2) h1;obtain ⟨h2,h3⟩:=hown.seg vs hj;refine O.val (v:=goInt (Nat.min m dl)) f hq rfl hn hw ?_ (hSw _ h3) fun a' f'=>hK a' _ h2 h3 f';simp [execOp,resolve,invoke,builtin,f.ev hx,f.ev hy,hrun]
end
theorem seg_a {W X Y Z : List Value} (hl : W.length = X.length + Y.length + Z.length) (hx : W.take X.length = X) : setSeg (setSeg W X.length Y) (X.length + Y.length) Z = X ++ Y ++ Z:=by
  apply List.ext_getElem?
  intro i;rw [setSeg_at _ _ _ _ (by rw [setSeg_len]; omega),setSeg_at _ _ _ _ (by omega)]
  by_cases h1 : i < X.length
  · have e : (W.take X.length)[i]? = W[i]? := by rw [List.getElem?_take, if_pos h1]
    rw [hx] at e;rw [if_neg (by omega),if_neg (by omega),List.append_assoc,List.getElem?_append_left h1,e]
  · by_cases h2 : i < X.length + Y.length
    · rw [if_neg (by omega),if_pos (by omega),List.append_assoc,List.getElem?_append_right (by omega),List.getElem?_append_left (by omega)]
    · by_cases h3 : i < X.length + Y.length + Z.length
      · rw [if_pos (by omega), List.getElem?_append_right (by simp; omega)]
        simp
      · rw [if_neg (by omega),if_neg (by omega),List.getElem?_eq_none (by omega),List.getElem?_eq_none (by simp; omega)]
theorem seg_b {W X Y Z : List Value} (hl : W.length = X.length + Y.length + Z.length) (hx : W.take X.length = X) : setSeg (setSeg W (X.length + Y.length) Z) X.length Y = X ++ Y ++ Z:=by
  apply List.ext_getElem?
  intro i;rw [setSeg_at _ _ _ _ (by rw [setSeg_len]; omega),setSeg_at _ _ _ _ (by omega)]
  by_cases h1 : i < X.length
  · have e : (W.take X.length)[i]? = W[i]? := by rw [List.getElem?_take, if_pos h1]
    rw [hx] at e;rw [if_neg (by omega),if_neg (by omega),List.append_assoc,List.getElem?_append_left h1,e]
  · by_cases h2 : i < X.length + Y.length
    · rw [if_pos (by omega),List.append_assoc,List.getElem?_append_right (by omega),List.getElem?_append_left (by omega)]
    · by_cases h3 : i < X.length + Y.length + Z.length
      · rw [if_neg (by omega), if_pos (by omega), List.getElem?_append_right (by simp; omega)]
        simp
      · rw [if_neg (by omega),if_neg (by omega),List.getElem?_eq_none (by omega),List.getElem?_eq_none (by simp; omega)]
end Go.Hub
namespace Go.Hub
open Go.RowKit Go.Lib
section
variable {P : Program} {ops : Array Oper} {rest : List Oper} {a : Act} {w : World} {Q : Exit → Act → World → Prop} {n d : Nat} {l : FL} {ty : TypeId} {ps : String} {af : Array Edge} {gd : Option (Nat × Bool)} {x y : Operand} {t u : TypeId}
theorem Sl.bs {A : Option Addr} {m : Nat} {b : List UInt8} (h : Sl w A m 1 (b.map u8)) : Bs [] w.heap.size w A m b:=by
  refine ⟨by have:=h.1; simpa using this,fun h0=>?_⟩;obtain ⟨g,off,e,hb,hc⟩:=h.2 h0;exact ⟨g,off,e,hb,.inl hb,fun i x hx=>hc i _ (by simp [hx])⟩
theorem E.toStr {dst : Option Nat} (f : Fr n a l) {A : Option Addr} {m c : Nat} {b : List UInt8} {e : TypeId} (hx : evl l x = some (.slice A m c)) (ht : P.underlying t = some (.slice e)) (he : P.underlying e = some (.int .u8)) (hu : P.underlying u = some .string) (h : Sl w A m 1 (b.map u8)) :
    (execOp a.eval ⟨dst,.convert t u x,ty,ps,af,gd⟩).run P w = .ok (.value (.string ⟨b.toArray⟩)) w:=E.convV f hx (h.bs.conv ht he hu)
end
end Go.Hub
namespace Go.Hub
open Go.RowKit
section
variable {P : Program} {a : Act} {w : World} {n : Nat} {l : FL} {dst : Option Nat} {ty : TypeId} {ps : String} {af : Array Edge} {g : Option (Nat × Bool)} {x : Operand} {t : TypeId}
theorem E.fieldAddrN (off : Nat) (f : Fr n a l) {fs : Array Field} {i : Nat} {fld : Field} {b o s : Nat} (ht : P.underlying t = some (.struct fs)) (hx : evl l x = some (.pointer (some ⟨b, o, none⟩))) (hi : fs[i]? = some fld) (ho : fld.offset = off)
    (hs : (P.info? fld.type).map (·.size) = some (s + 1)) : (execOp a.eval ⟨dst,.fieldAddr t x i,ty,ps,af,g⟩).run P w = .ok (.value (.pointer (some ⟨b,o + off,none⟩))) w:=by
  subst ho;exact E.fieldAddr f ht hx hi hs
end
def gd (ops : Array Oper) (l : FL) : Option (Nat × Bool) → Option Bool
  | none=>some true
  | some (j,b)=>match (ops[j]?).bind (·.dst) with
    | none=>none
    | some dj=>match look l dj with
      | some (.bool c)=>some (c == b)
      | some (.tuple _)=>some false
      | _=>none
def simpleOp (l : FL) : Op → Option Value
  | .move x=>evl l x
  | .assign x=>evl l x
  | .pick c x y=>match evl l c with
    | some (.bool true)=>evl l x
    | some (.bool false)=>evl l y
    | _=>none
  | .unOp .not _ x=>match evl l x with
    | some (.bool true)=>some (.bool false)
    | some (.bool false)=>some (.bool true)
    | _=>none
  | _=>none
def stepS (ops : Array Oper) (n : Nat) (l : FL) (o : Oper) : Option FL:=
  match gd ops l o.guard with
  | none=>none
  | some false=>match o.dst with
    | none=>some l
    | some d=>bif Nat.blt d n then some ((d,undef) :: l) else none
  | some true=>match simpleOp l o.op,o.dst with
    | some v,some d=>bif Nat.blt d n then some ((d,v) :: l) else none
    | _,_=>none
def runS (ops : Array Oper) (n : Nat) : FL → List Oper → FL × List Oper
  | l,[]=>(l,[])
  | l,o :: r=>match stepS ops n l o with
    | some l'=>runS ops n l' r
    | none=>(l,o :: r)
section
variable {P : Program} {ops : Array Oper} {a : Act} {w : World} {Q : Exit → Act → World → Prop} {n : Nat} {l l' : FL} {o : Oper} {rest : List Oper}
theorem gd_spec (f : Fr n a l) {c : Bool} (h : gd ops l o.guard = some c) : Region.wanted o (yielded ops a.tmps) = c:=by
  unfold gd at h;unfold Region.wanted
  cases hg : o.guard with
  | none=>rw [hg] at h; simpa using h
  | some p=>
    obtain ⟨j,b⟩:=p;rw [hg] at h;simp only at h ⊢
    cases hj : (ops[j]?).bind (·.dst) with
    | none=>rw [hj] at h; cases h
    | some dj=>
      rw [hj] at h;simp only at h
      split at h
      · rename_i c' hc
        rw [f.yield hj hc];simp at h;rw [← h]
        simp
      · rename_i hc
        have hy : yielded ops a.tmps j = none:=by
          unfold yielded;rw [hj];simp [f.slot dj _ hc]
        rw [hy];simp at h;simp [h]
      · cases h
theorem simpleOp_spec (f : Fr n a l) {v : Value} (h : simpleOp l o.op = some v) : (execOp a.eval o).run P w = .ok (.value v) w:=by
  obtain ⟨dst,op,ty,ps,af,g⟩:=o;simp only at h;unfold simpleOp at h
  split at h
  · exact E.move f h
  · exact E.assign f h
  · rename_i c x y
    split at h
    · rename_i hc
      exact E.pickT f hc h
    · rename_i hc
      exact E.pickF f hc h
    · cases h
  · rename_i t x
    split at h
    · rename_i hc
      simp at h;subst h;exact E.not f hc
    · rename_i hc
      simp at h;subst h;exact E.not f hc
    · cases h
  · cases h
theorem L.stepRun (f : Fr n a l) (h : Go.Hub.stepS ops n l o = some l') (hK : ∀ a',Fr n a' l' → wpList P ops Q rest a' w) : wpList P ops Q (o :: rest) a w:=by
  unfold Go.Hub.stepS at h
  split at h
  · cases h
  · rename_i hg
    have hw:=gd_spec f hg
    split at h
    · rename_i hd
      cases h;exact L.skipN f hw hd fun a' f'=>hK a' f'
    · rename_i d hd
      cases hb : Nat.blt d n
      · rw [hb] at h; cases h
      · rw [hb] at h
        cases h;exact L.skip f hw hd (by simpa [Nat.blt_eq] using hb) fun a' f'=>hK a' f'
  · rename_i hg
    have hw:=gd_spec f hg
    split at h
    · rename_i v d hv hd
      cases hb : Nat.blt d n
      · rw [hb] at h; cases h
      · rw [hb] at h
        cases h;exact L.val f hw hd (by simpa [Nat.blt_eq] using hb) (simpleOp_spec f hv) fun a' f'=>hK a' f'
    · cases h
theorem L.runAll : ∀ (rest : List Oper) (l : FL) (a : Act), Fr n a l → (∀ a', Fr n a' (runS ops n l rest).1 → wpList P ops Q (runS ops n l rest).2 a' w) → wpList P ops Q rest a w
  | [],l,a,f,hK=>hK a f
  | o :: r,l,a,f,hK=>by
    unfold runS at hK
    cases hs : Go.Hub.stepS ops n l o with
    | none=>
      rw [hs] at hK
      exact hK a f
    | some l'=>
      rw [hs] at hK
      exact L.stepRun f hs fun a' f'=>L.runAll r l' a' f' hK
theorem L.run (f : Fr n a l) {rest' : List Oper} (h : (runS ops n l rest).2 = rest') (hK : ∀ a',Fr n a' (runS ops n l rest).1 → wpList P ops Q rest' a' w) : wpList P ops Q rest a w:=
  L.runAll rest l a f (by rw [h]; exact hK)
def dstIn (i : Nat) : List Oper → Bool
  | []=>false
  | o :: r=>(match o.dst with | some d=>Nat.beq d i | none=>false) || dstIn i r
theorem runS_look (i : Nat) : ∀ (rest : List Oper) (l : FL), dstIn i rest = false → look (runS ops n l rest).1 i = look l i
  | [],l,_=>rfl
  | o :: r,l,h=>by
    unfold dstIn at h
    rw [Bool.or_eq_false_iff] at h
    unfold runS
    cases hs : Go.Hub.stepS ops n l o with
    | none=>rfl
    | some l'=>
      show look (runS ops n l' r).1 i = look l i
      rw [runS_look i r l' h.2]
      have key : ∀ d v,o.dst = some d → look ((d,v) :: l) i = look l i:=fun d v hd=>by
        have h1:=h.1
        rw [hd] at h1
        have hne : ¬ d = i:=fun e=>by
          subst e
          simp at h1
        have hb : (d == i) = false:=by simp [hne]
        simp [look,hb]
      unfold Go.Hub.stepS at hs
      split at hs
      · cases hs
      · split at hs
        · cases hs; rfl
        · rename_i d hd
          cases hb : Nat.blt d n
          · rw [hb] at hs; cases hs
          · rw [hb] at hs; cases hs; exact key _ _ hd
      · split at hs
        · rename_i v d hv hd
          cases hb : Nat.blt d n
          · rw [hb] at hs; cases hs
          · rw [hb] at hs; cases hs; exact key _ _ hd
        · cases hs
theorem Fr.kept (f : Fr n a (runS ops n l rest).1) {i : Nat} {v : Value} (hd : dstIn i rest = false) (h : look l i = some v) : look (runS ops n l rest).1 i = some v:=(runS_look i rest l hd).trans h
end
end Go.Hub
namespace Go.Hub
open Go.RowKit
def runD (md : Region.Mode) (ops : Array Oper) (n : Nat) : List Nat → FL → Array Bool → FL × Array Bool × Bool
  | [],l,listed=>(l,listed,true)
  | i :: r,l,listed=>match ops[i]? with
    | none=>(l,listed,false)
    | some o=>match o.dst,stepS ops n l o with
      | some _,some l'=>bif Region.free md ops listed i && (Region.ready md ops listed).contains i then runD md ops n r l' (listed.setIfInBounds i true) else (l,listed,false)
      | _,_=>(l,listed,false)
section
variable {P : Program} {ops : Array Oper} {Q : Exit → Act → World → Prop} {md : Region.Mode} {S : World → Prop} {a : Act} {w : World} {n : Nat} {l : FL}
theorem R.runAll (hs : Region.noSelect ops = true) (hQ : ∀ c (a : Act) (x : Nat × Value) w, Q (.panic c) (a.put (some x.1) x.2) w → Q (.panic c) a w) (hS : S w) {fuel : Nat} : ∀ (is : List Nat) (l : FL) (listed : Array Bool) (a : Act), Fr n a l → (runD md ops n is l listed).2.2 = true →
    (∀ a',Fr n a' (runD md ops n is l listed).1 → wpAnyH P md ops Q S fuel (runD md ops n is l listed).2.1 a' w) → wpAnyH P md ops Q S (fuel + is.length) listed a w
  | [],l,listed,a,f,_,hK=>hK a f
  | i :: r,l,listed,a,f,hd,hK=>by
    unfold runD at hd hK
    cases ho : ops[i]? with
    | none=>simp only [ho] at hd; cases hd
    | some o=>
      simp only [ho] at hd hK
      cases hdst : o.dst with
      | none=>simp only [hdst] at hd; cases hd
      | some d=>
        cases hst : stepS ops n l o with
        | none=>simp only [hdst,hst] at hd; cases hd
        | some l'=>
          simp only [hdst,hst] at hd hK
          cases hc : Region.free md ops listed i && (Region.ready md ops listed).contains i
          · simp only [hc] at hd; cases hd
          · simp only [hc, cond_true] at hd hK
            have hc' : Region.free md ops listed i = true ∧ (Region.ready md ops listed).contains i = true:=by simpa using hc
            rw [List.length_cons,← Nat.add_assoc]
            unfold stepS at hst
            split at hst
            · cases hst
            · rename_i hg
              rw [hdst] at hst
              simp only at hst
              cases hb : Nat.blt d n
              · rw [hb] at hst; cases hst
              · rw [hb] at hst
                cases hst
                exact R.takeSkip i f ho hdst (by simpa [Nat.blt_eq] using hb) hs hc'.1 hc'.2 (fun c a u w=>hQ c a (d,u) w) (gd_spec f hg) hS fun a' f'=>R.runAll hs hQ hS r _ _ a' f' hd hK
            · rename_i hg
              rw [hdst] at hst
              cases hv : simpleOp l o.op with
              | none=>simp [hv] at hst
              | some v=>
                simp only [hv] at hst
                cases hb : Nat.blt d n
                · rw [hb] at hst; cases hst
                · rw [hb] at hst
                  cases hst
                  exact R.take i f ho hdst (by simpa [Nat.blt_eq] using hb) hs hc'.1 hc'.2 (fun c a u w=>hQ c a (d,u) w) (gd_spec f hg) hS (fun w _=>simpleOp_spec f hv) fun a' f'=>R.runAll hs hQ hS r _ _ a' f' hd hK
def dstInD (ops : Array Oper) (i : Nat) : List Nat → Bool
  | []=>false
  | j :: r=>(match (ops[j]?).bind (·.dst) with | some d=>Nat.beq d i | none=>false) || dstInD ops i r
theorem stepS_look {o : Oper} {l' : FL} {i d : Nat} (hs : stepS ops n l o = some l') (hd : o.dst = some d) (hi : Nat.beq d i = false) : look l' i = look l i:=by
  have key : ∀ v,look ((d,v) :: l) i = look l i:=fun v=>by
    have hne : ¬ d = i:=fun e=>by subst e; simp at hi
    have hb : (d == i) = false:=by simp [hne]
    simp [look,hb]
  unfold stepS at hs
  split at hs
  · cases hs
  · rw [hd] at hs
    simp only at hs;cases hb : Nat.blt d n
    · rw [hb] at hs; cases hs
    · rw [hb] at hs; cases hs; exact key _
  · rw [hd] at hs
    cases hv : simpleOp l o.op with
    | none=>simp [hv] at hs
    | some v=>
      simp only [hv] at hs;cases hb : Nat.blt d n
      · rw [hb] at hs; cases hs
      · rw [hb] at hs; cases hs; exact key _
theorem runD_look (i : Nat) : ∀ (is : List Nat) (l : FL) (listed : Array Bool), dstInD ops i is = false → look (runD md ops n is l listed).1 i = look l i
  | [],l,listed,_=>rfl
  | j :: r,l,listed,h=>by
    unfold dstInD at h
    rw [Bool.or_eq_false_iff] at h
    unfold runD
    cases ho : ops[j]? with
    | none=>rfl
    | some o=>
      simp only
      cases hdst : o.dst with
      | none=>rfl
      | some d=>
        cases hst : stepS ops n l o with
        | none=>rfl
        | some l'=>
          simp only
          cases hc : Region.free md ops listed j && (Region.ready md ops listed).contains j
          · rfl
          · simp only [cond_true]
            rw [runD_look i r l' _ h.2]
            have h1:=h.1
            rw [ho] at h1
            simp only [Option.bind_some,hdst] at h1
            exact stepS_look hst hdst h1
theorem R.run (is : List Nat) {listed : Array Bool} (listed' : Array Bool) {fuel : Nat} (f : Fr n a l) (hs : Region.noSelect ops = true) (hQ : ∀ c (a : Act) (x : Nat × Value) w, Q (.panic c) (a.put (some x.1) x.2) w → Q (.panic c) a w) (hS : S w)
    (h : ((runD md ops n is l listed).2.2 && ((runD md ops n is l listed).2.1 == listed')) = true) (hK : ∀ a',Fr n a' (runD md ops n is l listed).1 → wpAnyH P md ops Q S fuel listed' a' w) : wpAnyH P md ops Q S (fuel + is.length) listed a w:=by
  rw [Bool.and_eq_true] at h;refine R.runAll hs hQ hS is l listed a f h.1 ?_;rw [eq_of_beq h.2];exact hK
theorem Fr.keptD {is : List Nat} {listed : Array Bool} (f : Fr n a (runD md ops n is l listed).1) {i : Nat} {v : Value} (hd : dstInD ops i is = false) (h : look l i = some v) : look (runD md ops n is l listed).1 i = some v:=(runD_look i is l listed hd).trans h
end
end Go.Hub
namespace Go.Hub
open Go.RowKit
section
variable {P : Program} {ops : Array Oper} {Q : Exit → Act → World → Prop} {md : Region.Mode} {S : World → Prop} {a : Act} {w w' : World} {n d : Nat} {l : FL} {v : Value} {o : Oper} {K : Act → World → Prop}
theorem O.call {i : Nat} (f : Fr n a l) (hi : ops[i]? = some o) (hd : o.dst = some d) (hn : d < n) (hw : Region.wanted o (yielded ops a.tmps) = true)
    {fn : Nat} {args : Array Value} (h : (execOp a.eval o).run P w = .ok (.enter fn args) w) {R : Ending → World → Prop} (hc : Calls P fn args w R)
    (hR : ∀ e w',R e w' → ∃ v,e = .returned v ∧ S w' ∧ ∀ a',Fr n a' ((d,v) :: l) → K a' w') : wpOp P ops Q i (fun a w=>S w ∧ K a w) a w:=by
  unfold wpOp;simp only [hi,hw,if_true];refine .inl ?_;unfold Oper.wp;rw [h];refine Calls.mono hc ?_;intro e w' hr;obtain ⟨v,rfl,hS,hK⟩:=hR e w' hr;show S w' ∧ K (a.put o.dst v) w';rw [hd];exact ⟨hS,hK _ (f.put d v hn)⟩
end
section
variable {P : Program} {ops : Array Oper} {Q : Exit → Act → World → Prop} {md : Region.Mode} {S : World → Prop} {a : Act} {w : World} {n d : Nat} {l : FL} {v : Value} {fuel : Nat} {listed : Array Bool} {ty : TypeId} {ps : String} {af : Array Edge} {gd : Option (Nat × Bool)} {x y : Operand} {t : TypeId}
theorem R.storeR (i : Nat) (f : Fr n a l) (hi : ops[i]? = some ⟨none, .store t x y, ty, ps, af, gd⟩) (hr : Region.ready md ops listed = [i]) (hw : Region.wanted ⟨none, .store t x y, ty, ps, af, gd⟩ (yielded ops a.tmps) = true) {g s : Nat} {e : TypeId} {cs cs' : Array Value} (hs : (P.info? t).map (·.size) = some s) (hx : evl l x = some (.pointer (some ⟨g, 0, none⟩))) (hy : evl l y = some (.agg cs')) (h1 : cs'.toList.all (·.oneCell') = true)
    (B : Blk w g e cs) (hz : cs'.size = cs.size) (hl : cs'.size = s) (hS : ∀ w',Kept [g] w w' → S w') (hK : ∀ a' w',Fr n a' l → Blk w' g e cs' → Kept [g] w w' → S w' → wpAnyH P md ops Q S fuel (listed.setIfInBounds i true) a' w') : wpAnyH P md ops Q S (fuel + 1) listed a w:=
  R.act i f hi rfl hr hw (E.storeR f (hl ▸ hs) hx hy (by simpa using h1) (B.there (by omega))) (hS _ (setCells_kept w g 0 _)) fun a' f'=>hK a' _ f' (setCells_blk B cs' hz) (setCells_kept w g 0 _) (hS _ (setCells_kept w g 0 _))
end
end Go.Hub
namespace Go.Hub
open Go.RowKit
section
variable {P : Program} {ops : Array Oper} {rest : List Oper} {o : Oper} {a : Act} {w w' w'' : World} {Q : Exit → Act → World → Prop} {n d : Nat} {l : FL} {v : Value}
theorem L.va (f : Fr n a l) (h : (execOp a.eval o).run P w = .ok (.value v) w') (hK : ∀ a', Fr n a' ((d, v) :: l) → wpList P ops Q rest a' w')
    (hw : Region.wanted o (yielded ops a.tmps) = true:=by exact wantedN) (hd : o.dst = some d:=by rfl) (hn : d < n:=by decide) : wpList P ops Q (o :: rest) a w:=L.val f hw hd hn h hK
theorem L.sk (f : Fr n a l) (hw : Region.wanted o (yielded ops a.tmps) = false) (hK : ∀ a',Fr n a' ((d,undef) :: l) → wpList P ops Q rest a' w) (hd : o.dst = some d:=by rfl) (hn : d < n:=by decide) : wpList P ops Q (o :: rest) a w:=L.skip f hw hd hn hK
theorem L.cl (f : Fr n a l) {fn : Nat} {args : Array Value} (h : (execOp a.eval o).run P w = .ok (.enter fn args) w) {R : Ending → World → Prop} (hc : Calls P fn args w R)
    (hR : ∀ e w',R e w' → ∃ v,e = .returned v ∧ ∀ a',Fr n a' ((d,v) :: l) → wpList P ops Q rest a' w') (hw : Region.wanted o (yielded ops a.tmps) = true:=by exact wantedN) (hd : o.dst = some d:=by rfl) (hn : d < n:=by decide) : wpList P ops Q (o :: rest) a w:=L.call f hw hd hn h hc hR
theorem sn {l : FL} : Go.Hub.sub l []:=trivial
theorem sc (i : Nat) {l : FL} {v : Value} {r : FL} (h' : Go.Hub.sub l r) (h : look l i = some v:=by rfl) : Go.Hub.sub l ((i,v) :: r):=⟨h,h'⟩
theorem then_of {J : Act → World → Prop} (h : J a w) : Exit.then J Q .normal a w:=h
theorem Kept.nn {L : List Nat} {g : Nat} (h : Kept L w w') (k : Kept [g] w' w'') (hg : w.heap.size ≤ g) : Kept L w w'':=h.trans k fun x hx hlt=>by
  obtain rfl:=List.mem_singleton.1 hx
  omega
theorem Kept.z {L : List Nat} (h : Kept L w w') (k : Kept [] w' w'') : Kept L w w'':=h.trans k (by simp)
theorem Blk.z {g : Nat} {t : TypeId} {cs : Array Value} (h : Blk w g t cs) (k : Kept [] w w') : Blk w' g t cs:=h.kept k (by simp)
theorem Blk.oo {g x : Nat} {t : TypeId} {cs : Array Value} (h : Blk w g t cs) (k : Kept [x] w w') (hx : g ≠ x:=by omega) : Blk w' g t cs:=h.kept k (by simpa using hx)
end
section
variable {P : Program} {ops : Array Oper} {Q : Exit → Act → World → Prop} {md : Region.Mode} {S : World → Prop} {a : Act} {w w' : World} {n d : Nat} {l : FL} {v : Value} {o : Oper}
theorem R.t (i : Nat) {fuel : Nat} {listed : Array Bool} (f : Fr n a l) (hi : ops[i]? = some o) (hS : S w) (hv : ∀ w, S w → (execOp a.eval o).run P w = .ok (.value v) w)
    (hK : ∀ a',Fr n a' ((d,v) :: l) → wpAnyH P md ops Q S fuel (listed.setIfInBounds i true) a' w) (hw : Region.wanted o (yielded ops a.tmps) = true:=by exact wantedN) (hd : o.dst = some d:=by rfl) (hn : d < n:=by decide)
    (hs : Region.noSelect ops = true:=by kernel_rfl) (hf : Region.free md ops listed i = true:=by kernel_rfl) (hr : (Region.ready md ops listed).contains i = true:=by kernel_rfl)
    (hQ : ∀ c (a : Act) (u : Value) w,Q (.panic c) (a.put (some d) u) w → Q (.panic c) a w:=by exact fun _ _ _ _ h=>h) : wpAnyH P md ops Q S (fuel + 1) listed a w:=R.take i f hi hd hn hs hf hr hQ hw hS hv hK
theorem R.ts (i : Nat) {fuel : Nat} {listed : Array Bool} (f : Fr n a l) (hi : ops[i]? = some o) (hS : S w) (hw : Region.wanted o (yielded ops a.tmps) = false)
    (hK : ∀ a',Fr n a' ((d,undef) :: l) → wpAnyH P md ops Q S fuel (listed.setIfInBounds i true) a' w) (hd : o.dst = some d:=by rfl) (hn : d < n:=by decide)
    (hs : Region.noSelect ops = true:=by kernel_rfl) (hf : Region.free md ops listed i = true:=by kernel_rfl) (hr : (Region.ready md ops listed).contains i = true:=by kernel_rfl)
    (hQ : ∀ c (a : Act) (u : Value) w,Q (.panic c) (a.put (some d) u) w → Q (.panic c) a w:=by exact fun _ _ _ _ h=>h) : wpAnyH P md ops Q S (fuel + 1) listed a w:=R.takeSkip i f hi hd hn hs hf hr hQ hw hS hK
end
section
variable {P : Program} {a : Act} {w : World} {n : Nat} {l : FL} {dst : Option Nat} {ty : TypeId} {ps : String} {af : Array Edge} {g : Option (Nat × Bool)} {x y : Operand} {t u : TypeId}
theorem E.fa (off : Nat) (f : Fr n a l) {fs : Array Field} {i : Nat} {fld : Field} {b o s : Nat} (ht : P.underlying t = some (.struct fs)) (hi : fs[i]? = some fld) (hs : (P.info? fld.type).map (·.size) = some (s + 1)) (hx : evl l x = some (.pointer (some ⟨b, o, none⟩)) := by rfl) (ho : fld.offset = off := by rfl) :
    (execOp a.eval ⟨dst,.fieldAddr t x i,ty,ps,af,g⟩).run P w = .ok (.value (.pointer (some ⟨b,o + off,none⟩))) w:=E.fieldAddrN off f ht hx hi ho hs
theorem E.ld (f : Fr n a l) {b : Nat} {o : Nat} {v : Value} {d : TypeDesc} {e : TypeId} {cs : Array Value} (ht : P.underlying t = some d) (B : Blk w b e cs) (hx : evl l x = some (.pointer (some ⟨b, o, none⟩)) := by rfl) (hc : cs.toList[o]? = some v := by rfl) (hd : d.isRow = false := by rfl) :
    (execOp a.eval ⟨dst,.load t x,ty,ps,af,g⟩).run P w = .ok (.value v) w:=E.load f ht hd hx (B.cl hc)
theorem E.eq (f : Fr n a l) {k : IntKind} {i j : Int} (hx : evl l x = some (.int k i):=by rfl) (hy : evl l y = some (.int k j):=by rfl) : (execOp a.eval ⟨dst,.binOp .eql t x y u,ty,ps,af,g⟩).run P w = .ok (.value (.bool (decide (i = j)))) w:=E.eql f hx hy
end
theorem ktr {L : List Nat} {g : Nat} {w : World} (h : w.heap.size ≤ g ∨ g ∈ L) : ∀ x ∈ [g],x < w.heap.size → x ∈ L:=fun x hx hlt=>by
  obtain rfl:=List.mem_singleton.1 hx
  rcases h with h | h
  · omega
  · exact h
theorem z1 {α : Type} {xs : List α} {i : Nat} {a : α} : xs.toArray.setIfInBounds i a = (xs.set i a).toArray:=List.setIfInBounds_toArray ..
theorem z2 {α : Type} {a b : α} {xs : List α} : (a :: xs).set 0 b = b :: xs:=rfl
theorem z3 {α : Type} {a b : α} {xs : List α} {i : Nat} : (a :: xs).set (i + 1) b = a :: xs.set i b:=rfl
end Go.Hub
namespace Go.Hub
open Go.RowKit
def readyAt (md : Region.Mode) (ops : Array Oper) (listed : Array Bool) (i : Nat) : Bool:=
  Nat.blt i ops.size && (!listed.getD i true && ((ops[i]?).map (·.after.all fun e=>!Region.binds md e || listed.getD e.on false)).getD false)
def waits (md : Region.Mode) (o : Oper) (i : Nat) : Bool:=o.after.any fun e=>Region.binds md e && e.on == i
def tame (md : Region.Mode) (ops : Array Oper) : Bool:=(List.range ops.size).all fun i=>match ops[i]? with
  | none=>false
  | some oi=>(List.range ops.size).all fun j=>j == i || match ops[j]? with
    | some oj=>waits md oj i || waits md oi j || oi.apart ops oj
    | none=>true
theorem readyAt_spec {md : Region.Mode} {ops : Array Oper} {listed : Array Bool} {i : Nat} (h : readyAt md ops listed i = true) : (Region.ready md ops listed).contains i = true:=by
  unfold readyAt at h;rw [Bool.and_eq_true] at h;rw [List.contains_iff_mem];exact List.mem_filter.2 ⟨List.mem_range.2 (Nat.le_of_ble_eq_true h.1),h.2⟩
theorem free_of_tame {md : Region.Mode} {ops : Array Oper} {listed : Array Bool} {i : Nat} (ht : tame md ops = true) (h : readyAt md ops listed i = true) : Region.free md ops listed i = true:=by
  unfold readyAt at h;rw [Bool.and_eq_true,Bool.and_eq_true] at h;obtain ⟨h1,h2,h3⟩:=h;unfold Region.free;have ht1:=List.all_eq_true.1 ht i (List.mem_range.2 (Nat.le_of_ble_eq_true h1))
  cases hi : ops[i]? with
  | none=>rw [hi] at h3; simp at h3
  | some oi=>
    rw [hi] at ht1 h3;simp only [Option.map_some,Option.getD_some] at h3;simp only at ht1 ⊢;refine List.all_eq_true.2 fun j hj=>?_;have h4:=List.all_eq_true.1 ht1 j hj;rw [Bool.or_eq_true] at h4
    rcases h4 with h4 | h4
    · simp [h4]
    · cases hoj : ops[j]? with
      | none=>simp
      | some oj=>
        rw [hoj] at h4;simp only [Bool.or_eq_true] at h4 ⊢
        rcases h4 with (h4 | h4) | h4
        · exact .inr (.inl h4)
        · refine .inl (.inr ?_)
          unfold waits at h4;obtain ⟨e,he,hb⟩:=Array.any_eq_true'.1 h4;rw [Bool.and_eq_true] at hb;have h5:=Array.all_eq_true_iff_forall_mem.1 h3 e he;have hon : e.on = j:=by simpa using hb.2
          rw [hb.1,hon] at h5;simp only [Bool.not_true,Bool.false_or] at h5
          rcases Nat.lt_or_ge j listed.size with hl | hl
          · simp [hl] at h5 ⊢; exact h5
          · simp [Array.getElem?_eq_none hl] at h5
        · exact .inr (.inr h4)
section
variable {P : Program} {ops : Array Oper} {Q : Exit → Act → World → Prop} {md : Region.Mode} {S : World → Prop} {a : Act} {w w' : World} {n d : Nat} {l : FL} {v : Value} {o : Oper}
theorem R.beginT {id : Nat} (hm : P.follows .mixedOrders = true) (hc : (Region.noSelect ops && tame .any ops) = true) (hS : S (w.drewN 1))
    (h : (Region.noSelect ops = true ∧ tame .any ops = true) → wpAnyH P .any ops Q S ops.size (Array.replicate ops.size false) a (w.drewN 1)) : (Code.region id ops true).wp P Q a w:=R.begin hm hS (h (by simpa using hc))
theorem R.u (i : Nat) {fuel : Nat} {listed : Array Bool} (f : Fr n a l) (hi : ops[i]? = some o) (ht : Region.noSelect ops = true ∧ tame md ops = true) (hS : S w) (hv : ∀ w, S w → (execOp a.eval o).run P w = .ok (.value v) w)
    (hK : ∀ a',Fr n a' ((d,v) :: l) → wpAnyH P md ops Q S fuel (listed.setIfInBounds i true) a' w) (hw : Region.wanted o (yielded ops a.tmps) = true:=by exact wantedN) (hd : o.dst = some d:=by rfl) (hn : d < n:=by decide)
    (hr : readyAt md ops listed i = true:=by kernel_rfl)
    (hQ : ∀ c (a : Act) (u : Value) w,Q (.panic c) (a.put (some d) u) w → Q (.panic c) a w:=by exact fun _ _ _ _ h=>h) : wpAnyH P md ops Q S (fuel + 1) listed a w:=R.take i f hi hd hn ht.1 (free_of_tame ht.2 hr) (readyAt_spec hr) hQ hw hS hv hK
theorem R.us (i : Nat) {fuel : Nat} {listed : Array Bool} (f : Fr n a l) (hi : ops[i]? = some o) (ht : Region.noSelect ops = true ∧ tame md ops = true) (hS : S w) (hw : Region.wanted o (yielded ops a.tmps) = false)
    (hK : ∀ a',Fr n a' ((d,undef) :: l) → wpAnyH P md ops Q S fuel (listed.setIfInBounds i true) a' w) (hd : o.dst = some d:=by rfl) (hn : d < n:=by decide)
    (hr : readyAt md ops listed i = true:=by kernel_rfl)
    (hQ : ∀ c (a : Act) (u : Value) w,Q (.panic c) (a.put (some d) u) w → Q (.panic c) a w:=by exact fun _ _ _ _ h=>h) : wpAnyH P md ops Q S (fuel + 1) listed a w:=R.takeSkip i f hi hd hn ht.1 (free_of_tame ht.2 hr) (readyAt_spec hr) hQ hw hS hK
end
def runT (md : Region.Mode) (ops : Array Oper) (n : Nat) : List Nat → FL → Array Bool → FL × Array Bool × Bool
  | [],l,listed=>(l,listed,true)
  | i :: r,l,listed=>match ops[i]? with
    | none=>(l,listed,false)
    | some o=>match o.dst,stepS ops n l o with
      | some _,some l'=>bif readyAt md ops listed i then runT md ops n r l' (listed.setIfInBounds i true) else (l,listed,false)
      | _,_=>(l,listed,false)
section
variable {P : Program} {ops : Array Oper} {Q : Exit → Act → World → Prop} {md : Region.Mode} {S : World → Prop} {a : Act} {w : World} {n : Nat} {l : FL}
theorem R.runAllT (ht : Region.noSelect ops = true ∧ tame md ops = true) (hQ : ∀ c (a : Act) (x : Nat × Value) w, Q (.panic c) (a.put (some x.1) x.2) w → Q (.panic c) a w) (hS : S w) {fuel : Nat} : ∀ (is : List Nat) (l : FL) (listed : Array Bool) (a : Act), Fr n a l → (runT md ops n is l listed).2.2 = true →
    (∀ a',Fr n a' (runT md ops n is l listed).1 → wpAnyH P md ops Q S fuel (runT md ops n is l listed).2.1 a' w) → wpAnyH P md ops Q S (fuel + is.length) listed a w
  | [],l,listed,a,f,_,hK=>hK a f
  | i :: r,l,listed,a,f,hd,hK=>by
    unfold runT at hd hK
    cases ho : ops[i]? with
    | none=>simp only [ho] at hd; cases hd
    | some o=>
      simp only [ho] at hd hK
      cases hdst : o.dst with
      | none=>simp only [hdst] at hd; cases hd
      | some d=>
        cases hst : stepS ops n l o with
        | none=>simp only [hdst,hst] at hd; cases hd
        | some l'=>
          simp only [hdst,hst] at hd hK
          cases hc : readyAt md ops listed i
          · simp only [hc] at hd; cases hd
          · simp only [hc, cond_true] at hd hK
            have hc' : Region.free md ops listed i = true ∧ (Region.ready md ops listed).contains i = true:=⟨free_of_tame ht.2 hc,readyAt_spec hc⟩
            rw [List.length_cons,← Nat.add_assoc]
            unfold stepS at hst
            split at hst
            · cases hst
            · rename_i hg
              rw [hdst] at hst
              simp only at hst
              cases hb : Nat.blt d n
              · rw [hb] at hst; cases hst
              · rw [hb] at hst
                cases hst
                exact R.takeSkip i f ho hdst (by simpa [Nat.blt_eq] using hb) ht.1 hc'.1 hc'.2 (fun c a u w=>hQ c a (d,u) w) (gd_spec f hg) hS fun a' f'=>R.runAllT ht hQ hS r _ _ a' f' hd hK
            · rename_i hg
              rw [hdst] at hst
              cases hv : simpleOp l o.op with
              | none=>simp [hv] at hst
              | some v=>
                simp only [hv] at hst
                cases hb : Nat.blt d n
                · rw [hb] at hst; cases hst
                · rw [hb] at hst
                  cases hst
                  exact R.take i f ho hdst (by simpa [Nat.blt_eq] using hb) ht.1 hc'.1 hc'.2 (fun c a u w=>hQ c a (d,u) w) (gd_spec f hg) hS (fun w _=>simpleOp_spec f hv) fun a' f'=>R.runAllT ht hQ hS r _ _ a' f' hd hK
theorem runT_look (i : Nat) : ∀ (is : List Nat) (l : FL) (listed : Array Bool), dstInD ops i is = false → look (runT md ops n is l listed).1 i = look l i
  | [],l,listed,_=>rfl
  | j :: r,l,listed,h=>by
    unfold dstInD at h
    rw [Bool.or_eq_false_iff] at h
    unfold runT
    cases ho : ops[j]? with
    | none=>rfl
    | some o=>
      simp only
      cases hdst : o.dst with
      | none=>rfl
      | some d=>
        cases hst : stepS ops n l o with
        | none=>rfl
        | some l'=>
          simp only
          cases hc : readyAt md ops listed j
          · rfl
          · simp only [cond_true]
            rw [runT_look i r l' _ h.2]
            have h1:=h.1
            rw [ho] at h1
            simp only [Option.bind_some,hdst] at h1
            exact stepS_look hst hdst h1
theorem R.runT (is : List Nat) {listed : Array Bool} (listed' : Array Bool) {fuel : Nat} (f : Fr n a l) (ht : Region.noSelect ops = true ∧ tame md ops = true) (hQ : ∀ c (a : Act) (x : Nat × Value) w, Q (.panic c) (a.put (some x.1) x.2) w → Q (.panic c) a w) (hS : S w)
    (h : ((runT md ops n is l listed).2.2 && ((runT md ops n is l listed).2.1 == listed')) = true) (hK : ∀ a',Fr n a' (runT md ops n is l listed).1 → wpAnyH P md ops Q S fuel listed' a' w) : wpAnyH P md ops Q S (fuel + is.length) listed a w:=by
  rw [Bool.and_eq_true] at h;refine R.runAllT ht hQ hS is l listed a f h.1 ?_;rw [eq_of_beq h.2];exact hK
theorem Fr.keptT {is : List Nat} {listed : Array Bool} (f : Fr n a (runT md ops n is l listed).1) {i : Nat} {v : Value} (hd : dstInD ops i is = false) (h : look l i = some v) : look (runT md ops n is l listed).1 i = some v:=(runT_look i is l listed hd).trans h
end
end Go.Hub
namespace Go.Hub
open Go.RowKit
def tf (n : Nat) (l : List Nat) : Array Bool:=((List.range n).map fun i=>!l.contains i).toArray
section
variable {P : Program} {ops : Array Oper} {rest : List Oper} {a : Act} {w : World} {Q : Exit → Act → World → Prop} {n d : Nat} {l : FL} {v : Value} {ty t : TypeId} {ps : String} {af : Array Edge} {g : Option (Nat × Bool)} {x : Operand}
theorem L.mv (f : Fr n a l) (hK : ∀ a', Fr n a' ((d, v) :: l) → wpList P ops Q rest a' w) (hx : evl l x = some v := by rfl)
    (hw : Region.wanted ⟨some d,.move x,ty,ps,af,g⟩ (yielded ops a.tmps) = true:=by exact wantedN) (hn : d < n:=by decide) : wpList P ops Q (⟨some d,.move x,ty,ps,af,g⟩ :: rest) a w:=L.val f hw rfl hn (E.move f hx) hK
theorem L.ag (f : Fr n a l) (hK : ∀ a', Fr n a' ((d, v) :: l) → wpList P ops Q rest a' w) (hx : evl l x = some v := by rfl)
    (hw : Region.wanted ⟨some d,.assign x,ty,ps,af,g⟩ (yielded ops a.tmps) = true:=by exact wantedN) (hn : d < n:=by decide) : wpList P ops Q (⟨some d,.assign x,ty,ps,af,g⟩ :: rest) a w:=L.val f hw rfl hn (E.assign f hx) hK
theorem L.fa (off : Nat) (f : Fr n a l) {fs : Array Field} {i : Nat} {fld : Field} {b o s : Nat} (ht : P.underlying t = some (.struct fs)) (hi : fs[i]? = some fld) (hs : (P.info? fld.type).map (·.size) = some (s + 1))
    (hK : ∀ a',Fr n a' ((d,.pointer (some ⟨b,o + off,none⟩)) :: l) → wpList P ops Q rest a' w) (hx : evl l x = some (.pointer (some ⟨b,o,none⟩)):=by rfl) (ho : fld.offset = off:=by rfl)
    (hw : Region.wanted ⟨some d,.fieldAddr t x i,ty,ps,af,g⟩ (yielded ops a.tmps) = true:=by exact wantedN) (hn : d < n:=by decide) : wpList P ops Q (⟨some d,.fieldAddr t x i,ty,ps,af,g⟩ :: rest) a w:=L.val f hw rfl hn (E.fa off f ht hi hs hx ho) hK
theorem L.ld (f : Fr n a l) {b o : Nat} {td : TypeDesc} {e : TypeId} {cs : Array Value} (ht : P.underlying t = some td) (B : Blk w b e cs) (hK : ∀ a', Fr n a' ((d, v) :: l) → wpList P ops Q rest a' w)
    (hx : evl l x = some (.pointer (some ⟨b,o,none⟩)):=by rfl) (hc : cs.toList[o]? = some v:=by rfl) (hd : td.isRow = false:=by rfl)
    (hw : Region.wanted ⟨some d,.load t x,ty,ps,af,g⟩ (yielded ops a.tmps) = true:=by exact wantedN) (hn : d < n:=by decide) : wpList P ops Q (⟨some d,.load t x,ty,ps,af,g⟩ :: rest) a w:=L.val f hw rfl hn (E.ld f ht B hx hc hd) hK
theorem scR {r : FL} {rest : List Oper} (f : Fr n a (runS ops n l rest).1) (i : Nat) (h' : Go.Hub.sub (runS ops n l rest).1 r) {v : Value} (hd : dstIn i rest = false:=by kernel_rfl) (h : look l i = some v:=by rfl) : Go.Hub.sub (runS ops n l rest).1 ((i,v) :: r):=⟨Fr.kept f hd h,h'⟩
theorem wn {R : Act → World → Prop} {Q : Exit → Act → World → Prop} (hK : ∀ a w,R a w → Q .normal a w) (h : R a w) : wpList P ops Q [] a w:=wpList_nil (hK _ _ h)
def pkL (l : FL) : List Nat → Option FL
  | []=>some []
  | i :: r=>match look l i,pkL l r with
    | some v,some t=>some ((i,v) :: t)
    | _,_=>none
theorem pkL_sub {l : FL} : ∀ (is : List Nat) (r : FL), pkL l is = some r → Go.Hub.sub l r
  | [],r,h=>by
    injection h with h
    subst h
    exact trivial
  | i :: is,r,h=>by
    unfold pkL at h
    split at h
    · next v t h1 h2=>
      injection h with h
      subst h
      exact ⟨h1,pkL_sub is _ h2⟩
    · cases h
theorem pk_gen {l l' : FL} : ∀ (is : List Nat) (r : FL), (∀ i ∈ is, look l' i = look l i) → pkL l is = some r → Go.Hub.sub l' r
  | [],r,_,h=>by
    injection h with h
    subst h
    exact trivial
  | i :: is,r,hk,h=>by
    unfold pkL at h
    split at h
    · next v t h1 h2=>
      injection h with h
      subst h
      exact ⟨(hk i (by simp)).trans h1,pk_gen is _ (fun j hj=>hk j (by simp [hj])) h2⟩
    · cases h
theorem pkS {l : FL} (is : List Nat) {r : FL} (h : pkL l is = some r:=by rfl) : Go.Hub.sub l r:=pkL_sub is r h
theorem pkR {rest : List Oper} (f : Fr n a (runS ops n l rest).1) (is : List Nat) {r : FL} (hd : (is.all fun i=>!dstIn i rest) = true:=by kernel_rfl) (h : pkL l is = some r:=by rfl) : Go.Hub.sub (runS ops n l rest).1 r:=
  pk_gen is r (fun i hi=>runS_look i rest l (by simpa using List.all_eq_true.1 hd i hi)) h
theorem pkT {md : Region.Mode} {is : List Nat} {listed : Array Bool} (f : Fr n a (runT md ops n is l listed).1) (ks : List Nat) {r : FL} (hd : (ks.all fun i=>!dstInD ops i is) = true:=by kernel_rfl) (h : pkL l ks = some r:=by rfl) : Go.Hub.sub (runT md ops n is l listed).1 r:=
  pk_gen ks r (fun i hi=>runT_look i is l listed (by simpa using List.all_eq_true.1 hd i hi)) h
theorem pkD {md : Region.Mode} {is : List Nat} {listed : Array Bool} (f : Fr n a (runD md ops n is l listed).1) (ks : List Nat) {r : FL} (hd : (ks.all fun i=>!dstInD ops i is) = true:=by kernel_rfl) (h : pkL l ks = some r:=by rfl) : Go.Hub.sub (runD md ops n is l listed).1 r:=
  pk_gen ks r (fun i hi=>runD_look i is l listed (by simpa using List.all_eq_true.1 hd i hi)) h
theorem Fr.pk (f : Fr n a l) (is : List Nat) {r : FL} (h : pkL l is = some r:=by rfl) : Fr n a r:=f.sub (pkL_sub is r h)
theorem R.mv {md : Region.Mode} {S : World → Prop} (i : Nat) {fuel : Nat} {listed : Array Bool} (f : Fr n a l) {v : Value} {x : Operand} {ty : TypeId} {ps : String} {af : Array Edge} {g : Option (Nat × Bool)} (hi : ops[i]? = some ⟨some d, .move x, ty, ps, af, g⟩) (hS : S w)
    (hK : ∀ a',Fr n a' ((d,v) :: l) → wpAnyH P md ops Q S fuel (listed.setIfInBounds i true) a' w) (hx : evl l x = some v:=by rfl) (hw : Region.wanted ⟨some d,.move x,ty,ps,af,g⟩ (yielded ops a.tmps) = true:=by exact wantedN) (hn : d < n:=by decide)
    (hs : Region.noSelect ops = true:=by kernel_rfl) (hf : Region.free md ops listed i = true:=by kernel_rfl) (hr : (Region.ready md ops listed).contains i = true:=by kernel_rfl)
    (hQ : ∀ c (a : Act) (u : Value) w,Q (.panic c) (a.put (some d) u) w → Q (.panic c) a w:=by exact fun _ _ _ _ h=>h) : wpAnyH P md ops Q S (fuel + 1) listed a w:=R.t i f hi hS (fun _ _=>E.move f hx) hK hw rfl hn hs hf hr hQ
theorem RB.tk {md : Region.Mode} {S : World → Prop} {o : Oper} {m : Nat} (i : Nat) {fuel : Nat} {listed : Array Bool} (f : Fr n a l) (hi : ops[i]? = some o) (hS : S w) (hv : ∀ w, S w → (execOp a.eval o).run P w = .ok (.value v) w)
    (hK : ∀ a',Fr n a' ((d,v) :: l) → wpAnyB P md ops Q S m fuel (listed.setIfInBounds i true) a' w) (hw : Region.wanted o (yielded ops a.tmps) = true:=by exact wantedN) (hd : o.dst = some d:=by rfl) (hn : d < n:=by decide)
    (hb : (Nat.blt i m && barrier md ops m) = true:=by kernel_rfl) (hs : Region.noSelect ops = true:=by kernel_rfl) (hf : Region.free md ops listed i = true:=by kernel_rfl) (hr : (Region.ready md ops listed).contains i = true:=by kernel_rfl)
    (hQ : ∀ c (a : Act) (u : Value) w,Q (.panic c) (a.put (some d) u) w → Q (.panic c) a w:=by exact fun _ _ _ _ h=>h) : wpAnyB P md ops Q S m (fuel + 1) listed a w:=RB.take i f hi hd hn hb hs hf hr hQ hw hS hv hK
theorem C.sk {id : Nat} {os : List Oper} {y : Code} (h : ∀ K : Act → World → Prop,(∀ a w,y.wp P Q a w → K a w) → wpList P os.toArray (Exit.then K Q) os a w) : (Code.seq (Code.region id os.toArray false) y).wp P Q a w:=wp_seq_k fun K hK=>C.region (h K hK)
theorem scT {md : Region.Mode} {r : FL} {is : List Nat} {listed : Array Bool} (f : Fr n a (runT md ops n is l listed).1) (i : Nat) (h' : Go.Hub.sub (runT md ops n is l listed).1 r) {v : Value} (hd : dstInD ops i is = false:=by kernel_rfl) (h : look l i = some v:=by rfl) : Go.Hub.sub (runT md ops n is l listed).1 ((i,v) :: r):=⟨Fr.keptT f hd h,h'⟩
theorem sr {l r : FL} {i : Nat} {v : Value} (h : look l i = some v) (h' : Go.Hub.sub l r) : Go.Hub.sub l ((i,v) :: r):=⟨h,h'⟩
theorem sv {l r : FL} (i : Nat) (v : Value) (h' : Go.Hub.sub l r) (h : look l i = some v:=by kernel_rfl) : Go.Hub.sub l ((i,v) :: r):=⟨h,h'⟩
theorem jK {a : Act} {w : World} (J : Act → World → Prop) (h : J a w) : Exit.then J (fun _ _ _=>True) .normal a w:=h
theorem sx {l r : FL} {i : Nat} {v : Value} (h' : Go.Hub.sub l r) (h : look l i = some v:=by rfl) : Go.Hub.sub l ((i,v) :: r):=⟨h,h'⟩
theorem Own.z {w w' : World} {e : TypeId} {size n : Nat} {v : Value} {xs : List Value} (h : Own w e size v n xs) (hk : Kept [] w w') : Own w' e size v n xs:=Own.kept h hk (by simp)
theorem xt {K : Act → World → Prop} {Q : Exit → Act → World → Prop} {a : Act} {w : World} : Exit.then K Q .ret a w = Q .ret a w:=rfl
theorem xb {i k : Nat} {Q : Exit → Act → World → Prop} {a : Act} {w : World} : Exit.inBlock i Q .ret a w = Q .ret a w:=rfl
end
section
variable {P : Program} {ops : Array Oper} {rest : List Oper} {a : Act} {w w' w'' : World} {Q : Exit → Act → World → Prop} {n d : Nat} {l : FL} {v : Value} {ty t : TypeId} {ps : String} {af : Array Edge} {g : Option (Nat × Bool)} {x : Operand} {dst : Option Nat} {op : Op} {j dj : Nat} {o : Oper}
theorem Fr.y {b : Bool} (f : Fr n a l) (hj : (ops[j]?).bind (·.dst) = some dj:=by rfl) (hb : look l dj = some (.bool b):=by rfl) : Region.wanted ⟨dst,op,ty,ps,af,some (j,b)⟩ (yielded ops a.tmps) = true:=f.yes hj hb
theorem Fr.nT (f : Fr n a l) (hj : (ops[j]?).bind (·.dst) = some dj:=by rfl) (hb : look l dj = some (.bool false):=by rfl) : Region.wanted ⟨dst,op,ty,ps,af,some (j,true)⟩ (yielded ops a.tmps) = false:=f.noT hj hb
theorem Fr.nF (f : Fr n a l) (hj : (ops[j]?).bind (·.dst) = some dj:=by rfl) (hb : look l dj = some (.bool true):=by rfl) : Region.wanted ⟨dst,op,ty,ps,af,some (j,false)⟩ (yielded ops a.tmps) = false:=f.noF hj hb
theorem Fr.nU {b : Bool} (f : Fr n a l) (hj : (ops[j]?).bind (·.dst) = some dj:=by rfl) (hb : look l dj = some undef:=by rfl) : Region.wanted ⟨dst,op,ty,ps,af,some (j,b)⟩ (yielded ops a.tmps) = false:=f.noU hj hb
theorem R.p {md : Region.Mode} {S : World → Prop} (i : Nat) {fuel : Nat} {listed : Array Bool} (f : Fr n a l) (hi : ops[i]? = some o) (hS : S w) (hv : ∀ {w}, (execOp a.eval o).run P w = .ok (.value v) w)
    (hK : ∀ a',Fr n a' ((d,v) :: l) → wpAnyH P md ops Q S fuel (listed.setIfInBounds i true) a' w) (hw : Region.wanted o (yielded ops a.tmps) = true:=by exact wantedN) (hd : o.dst = some d:=by rfl) (hn : d < n:=by decide)
    (hs : Region.noSelect ops = true:=by kernel_rfl) (hf : Region.free md ops listed i = true:=by kernel_rfl) (hr : (Region.ready md ops listed).contains i = true:=by kernel_rfl)
    (hQ : ∀ c (a : Act) (u : Value) w,Q (.panic c) (a.put (some d) u) w → Q (.panic c) a w:=by exact fun _ _ _ _ h=>h) : wpAnyH P md ops Q S (fuel + 1) listed a w:=R.t i f hi hS (fun _ _=>hv) hK hw hd hn hs hf hr hQ
theorem RB.p {md : Region.Mode} {S : World → Prop} {m : Nat} (i : Nat) {fuel : Nat} {listed : Array Bool} (f : Fr n a l) (hi : ops[i]? = some o) (hS : S w) (hv : ∀ {w}, (execOp a.eval o).run P w = .ok (.value v) w)
    (hK : ∀ a',Fr n a' ((d,v) :: l) → wpAnyB P md ops Q S m fuel (listed.setIfInBounds i true) a' w) (hw : Region.wanted o (yielded ops a.tmps) = true:=by exact wantedN) (hd : o.dst = some d:=by rfl) (hn : d < n:=by decide)
    (hb : (Nat.blt i m && barrier md ops m) = true:=by kernel_rfl) (hs : Region.noSelect ops = true:=by kernel_rfl) (hf : Region.free md ops listed i = true:=by kernel_rfl) (hr : (Region.ready md ops listed).contains i = true:=by kernel_rfl)
    (hQ : ∀ c (a : Act) (u : Value) w,Q (.panic c) (a.put (some d) u) w → Q (.panic c) a w:=by exact fun _ _ _ _ h=>h) : wpAnyB P md ops Q S m (fuel + 1) listed a w:=RB.tk i f hi hS (fun _ _=>hv) hK hw hd hn hb hs hf hr hQ
theorem R.cl {md : Region.Mode} {S : World → Prop} (i : Nat) {fuel : Nat} {listed : Array Bool} (f : Fr n a l) (hi : ops[i]? = some o) {fn : Nat} {args : Array Value} (h : (execOp a.eval o).run P w = .ok (.enter fn args) w) {R : Ending → World → Prop} (hc : Calls P fn args w R)
    (hR : ∀ e w',R e w' → ∃ v,e = .returned v ∧ S w' ∧ ∀ a',Fr n a' ((d,v) :: l) → wpAnyH P md ops Q S fuel (listed.setIfInBounds i true) a' w') (hw : Region.wanted o (yielded ops a.tmps) = true:=by exact wantedN) (hd : o.dst = some d:=by rfl) (hn : d < n:=by decide)
    (hr : Region.ready md ops listed = [i]:=by kernel_rfl) : wpAnyH P md ops Q S (fuel + 1) listed a w:=Go.Hub.R.call i f hi hd hn hr hw h hc hR
theorem RB.cl {md : Region.Mode} {S : World → Prop} {m : Nat} (i : Nat) {fuel : Nat} {listed : Array Bool} (f : Fr n a l) (hi : ops[i]? = some o) {fn : Nat} {args : Array Value} (h : (execOp a.eval o).run P w = .ok (.enter fn args) w) {R : Ending → World → Prop} (hc : Calls P fn args w R)
    (hR : ∀ e w',R e w' → ∃ v,e = .returned v ∧ S w' ∧ ∀ a',Fr n a' ((d,v) :: l) → wpAnyB P md ops Q S m fuel (listed.setIfInBounds i true) a' w') (hw : Region.wanted o (yielded ops a.tmps) = true:=by exact wantedN) (hd : o.dst = some d:=by rfl) (hn : d < n:=by decide)
    (hu : upto m listed = false:=by kernel_rfl) (hr : Region.ready md ops listed = [i]:=by kernel_rfl) : wpAnyB P md ops Q S m (fuel + 1) listed a w:=RB.call i f hi hd hn hu hr hw h hc hR
theorem R.on {md : Region.Mode} {S : World → Prop} (i : Nat) {fuel : Nat} {listed : Array Bool} (h : wpOp P ops Q i (fun a w=>S w ∧ wpAnyH P md ops Q S fuel (listed.setIfInBounds i true) a w) a w) (hr : Region.ready md ops listed = [i]:=by kernel_rfl) : wpAnyH P md ops Q S (fuel + 1) listed a w:=R.one i hr h
theorem Newb.al {cs : Array Value} {b : Nat} (h : Newb w w' b t cs) : Blk w' b t cs ∧ Kept [] w w' ∧ w.heap.size ≤ b ∧ b < w'.heap.size ∧ w.heap.size ≤ w'.heap.size:=⟨h.blk,h.kept,h.lo,h.blk.lt,h.kept.size⟩
theorem Blk.kn {cs : Array Value} {b c : Nat} (h : Blk w b t cs) (k : Kept [c] w w') (hn : b ≠ c:=by omega) : Blk w' b t cs:=h.kept k (by simpa using hn)
theorem Kept.lo {L : List Nat} {b : Nat} (h : Kept L w w') (k : w'.heap.size ≤ b) : w.heap.size ≤ b:=Nat.le_trans h.size k
section
variable {fn : Nat} {ats : Array TypeId} {x0 x1 x2 x3 x4 : Operand} {v0 v1 v2 v3 v4 : Value}
theorem rc1 (f : Fr n a l) (hc : ∀ args w,(callFunc fn args).run P w = .ok (.enter fn args) w) (h0 : evl l x0 = some v0:=by rfl) : (execOp a.eval ⟨dst,.call { callee:=.value (.func fn),args:=#[x0],argTypes:=ats },ty,ps,af,g⟩).run P w = .ok (.enter fn #[v0]) w:=run_call hc (args1 f h0)
theorem rc2 (f : Fr n a l) (hc : ∀ args w,(callFunc fn args).run P w = .ok (.enter fn args) w) (h0 : evl l x0 = some v0:=by rfl) (h1 : evl l x1 = some v1:=by rfl) : (execOp a.eval ⟨dst,.call { callee:=.value (.func fn),args:=#[x0,x1],argTypes:=ats },ty,ps,af,g⟩).run P w = .ok (.enter fn #[v0,v1]) w:=run_call hc (args2 f h0 h1)
theorem rc3 (f : Fr n a l) (hc : ∀ args w,(callFunc fn args).run P w = .ok (.enter fn args) w) (h0 : evl l x0 = some v0:=by rfl) (h1 : evl l x1 = some v1:=by rfl) (h2 : evl l x2 = some v2:=by rfl) : (execOp a.eval ⟨dst,.call { callee:=.value (.func fn),args:=#[x0,x1,x2],argTypes:=ats },ty,ps,af,g⟩).run P w = .ok (.enter fn #[v0,v1,v2]) w:=run_call hc (args3 f h0 h1 h2)
end
end
end Go.Hub
namespace Go.Proofs.YtekmhcdgmgbheaaGreatDoor
abbrev U40:=@Tryz.underlying40
abbrev U38:=@Tryz.underlying38
abbrev U46:=@Tryz.underlying46
abbrev U48:=@Tryz.underlying48
abbrev U3:=@Tryz.underlying3
abbrev U9:=@Tryz.underlying9
abbrev U32:=@Tryz.underlying32
abbrev U24:=@Tryz.underlying24
abbrev U62:=@Tryz.underlying62
abbrev U66:=@Tryz.underlying66
abbrev U37:=@Tryz.underlying37
abbrev U4:=@Tryz.underlying4
abbrev U25:=@Tryz.underlying25
abbrev U36:=@Tryz.underlying36
abbrev U5:=@Tryz.underlying5
abbrev U64:=@Tryz.underlying64
abbrev U33:=@Tryz.underlying33
abbrev U2:=@Tryz.underlying2
abbrev U90:=@Tryz.underlying90
abbrev U60:=@Tryz.underlying60
abbrev U27:=@Tryz.underlying27
abbrev U28:=@Tryz.underlying28
abbrev U124:=@Tryz.underlying124
abbrev U41:=@Tryz.underlying41
abbrev U54:=@Tryz.underlying54
abbrev U42:=@Tryz.underlying42
abbrev U29:=@Tryz.underlying29
end Go.Proofs.YtekmhcdgmgbheaaGreatDoor
namespace Go.Proofs.YtekmhcdgmgbheaaGreatDoor
open Go.RowKit Go.Hub
theorem Z0 : (Tryz.prog.info? 3).map (·.size) = some 1:=by kernel_rfl
theorem Z1 : (Tryz.prog.info? 3).map (fun i=>(i.zero,i.size)) = some (some (.int .i64 0),1):=by kernel_rfl
theorem Z2 (x0 : Int) (x1 : Int) : Instr.fill (fun i=>some (i * 1,1)) ((Array.range (2 * 1)).map fun j=>(Value.cells (.int .i64 0))[j % (Value.cells (.int .i64 0)).size]!) [(0,.int .i64 x0),(1,.int .i64 x1)] = some #[.int .i64 x0,.int .i64 x1]:=by kernel_rfl
theorem nan_any (x : Int) (w : World) : Calls Tryz.prog 113 #[.int .i64 x] w (fun e w'=>w = w' ∧ e = .returned (.bool false)):=by
 refine C.enter Tryz.func113 rfl Tryz.ntmps113 rfl ?_;intro a f;have f : Fr 6 a [(0,.int .i64 x)]:=f;refine C.sk fun _ k=>?_;refine L.ag f fun _ f=>?_;have f:=f.pk [0,2];refine wn k (C.sk fun _ k=>?_);refine L.mv f fun _ f=>?_;refine L.mv f fun _ f=>?_;refine L.va f (E.neq f rfl rfl) fun _ f=>?_;refine L.ag f fun _ f=>?_;have f:=f.pk [2];refine wn k (wp_ret ?_); (try simp only [xt,xb]); refine C.ret f rfl rfl ?_;exact ⟨rfl,by simp⟩
theorem cmp_any (x y : Int) (w : World) : Calls Tryz.prog 87 #[.int .i64 x,.int .i64 y] w (fun e w'=>w = w' ∧ e = .returned (.int .i64 (cmpI x y))):=by
 refine C.enter Tryz.func87 rfl Tryz.ntmps87 rfl ?_;intro a f;have f : Fr 20 a [(0,.int .i64 x),(1,.int .i64 y)]:=f;refine C.sk fun _ k=>?_;refine L.ag f fun _ f=>?_;have f:=f.pk [0,1,4];refine wn k (C.sk fun _ k=>?_);refine L.mv f fun _ f=>?_;refine L.cl f (rc1 f Tryz.call113) (nan_any _ _) ?_;rintro e wx ⟨rfl,rfl⟩;refine ⟨_,rfl,fun _ f=>?_⟩;refine L.ag f fun _ f=>?_;have f:=f.pk [0,1,4,5];refine wn k (C.sk fun _ k=>?_);refine L.mv f fun _ f=>?_;refine L.cl f (rc1 f Tryz.call113) (nan_any _ _) ?_;rintro e wx ⟨rfl,rfl⟩;refine ⟨_,rfl,fun _ f=>?_⟩;refine L.ag f fun _ f=>?_;refine wn k ?_;have f:=f.pk [0,1,4,5,6];refine wp_seq_k fun _ k=>C.sk fun _ k1=>?_;refine L.mv f fun _ f=>?_;refine wn k1 ?_;have f:=f.pk [0,1,4,6,11];refine C.condF f rfl ?_;refine wp_skip (k _ _ ?_);have f:=f.pk [0,1,4,6];refine wp_seq_k fun _ k=>C.sk fun _ k1=>?_;refine L.mv f fun _ f=>?_;refine wn k1 ?_;have f:=f.pk [0,1,4,13];refine C.condF f rfl ?_;refine wp_skip (k _ _ ?_);have f:=f.pk [0,1,4];refine wp_seq_k fun _ k=>C.sk fun _ k1=>?_;refine L.mv f fun _ f=>?_;refine L.mv f fun _ f=>?_;refine L.va f (E.lss f rfl rfl) fun _ f=>?_;refine wn k1 ?_;have f:=f.pk [0,1,4,16];refine f.splitD 16 rfl (fun h0 f=>?_) (fun h0 f=>?_)
 ·refine C.condT f rfl ?_;refine C.sk fun _ k1=>?_;refine L.ag f fun _ f32=>?_;have f32:=f32.pk [0,1,4];refine wn k1 (wp_ret ?_); (try simp only [xt,xb]); refine C.ret f32 rfl rfl ?_;exact ⟨rfl,by simp [cmpI, *]⟩
 refine C.condF f rfl ?_;refine wp_skip (k _ _ ?_);have f:=f.pk [0,1,4];refine wp_seq_k fun _ k=>C.sk fun _ k1=>?_;refine L.mv f fun _ f=>?_;refine L.mv f fun _ f=>?_;refine L.va f (E.gtr f rfl rfl) fun _ f=>?_;refine wn k1 ?_;have f:=f.pk [4,19];refine f.splitD 19 rfl (fun h1 f=>?_) (fun h1 f=>?_)
 ·refine C.condT f rfl ?_;refine C.sk fun _ k1=>?_;refine L.ag f fun _ f32=>?_;have f32:=f32.pk [4];refine wn k1 (wp_ret ?_); (try simp only [xt,xb]); refine C.ret f32 rfl rfl ?_;exact ⟨rfl,by simp [cmpI, *]⟩
 refine C.condF f rfl ?_;refine wp_skip (k _ _ ?_);have f:=f.pk [4];refine C.sk fun _ k=>?_;refine L.ag f fun _ f=>?_;have f:=f.pk [4];refine wn k (wp_ret ?_); (try simp only [xt,xb]); refine C.ret f rfl rfl ?_;exact ⟨rfl,by simp [cmpI, *]⟩
theorem or_any (x y : Int) (b c : Nat) (w : World) (B : Blk w b 3 #[.int .i64 x,.int .i64 y]) : Calls Tryz.prog 84 #[.slice (some ⟨b,0,none⟩) 2 c] w (fun e w'=>w = w' ∧ e = .returned (.int .i64 (if x = 0 then y else x))):=by
 refine C.enter Tryz.func84 rfl Tryz.ntmps84 rfl ?_;intro a1 f;have f : Fr 18 a1 [(0,.slice (some ⟨b,0,none⟩) 2 c)]:=f;refine C.sk fun _ k1=>?_;refine L.ag f fun _ f=>?_;have f:=f.pk [0,2];refine wn k1 (C.sk fun _ k1=>?_);refine L.ag f fun _ f=>?_;refine wn k1 ?_;have f:=f.pk [0,2,3];refine wp_seq_k fun _ k1=>C.sk fun _ k2=>?_;refine L.mv f fun _ f=>?_;refine L.va f (E.lenL f U90 rfl) fun _ f=>?_;refine L.mv f fun _ f=>?_;refine wn k2 ?_;have f:=f.pk [2,3,6,7,8];refine wp_block ?_;refine C.loop (fun gk a W=>w = W ∧ ∃ k : Nat,k + gk = 2 ∧ (0 < k → x = 0) ∧ (1 < k → y = 0) ∧ Fr 18 a [(3,.int .i64 0),(6,.slice (some ⟨b,0,none⟩) 2 c),(7,.int .i64 2),(8,.int .i64 k)]) (2) ?_ ?_
 ·exact ⟨rfl,0,rfl,by omega,by omega,f.sub (sx (sx (sx (sx sn))))⟩
 intro gk5 _ w1 hI KL4 hKL4;obtain ⟨hW,k,hk,hx,hy,f27⟩:=hI;subst hW
 try clear f
 have hcell : k < 2 → w.cell? ⟨b,0 + (Int.toNat (k : Int)) * 1,none⟩ = some (.int .i64 (if k = 0 then x else y)):=fun h=>by
  rcases (show k = 0 ∨ k = 1 by omega) with rfl | rfl
  ·exact B.cell_ rfl
  exact B.cell_ rfl
 refine C.sk fun _ k2=>?_;refine L.va f27 (E.lss f27 rfl rfl) fun _ f=>?_;refine wn k2 ?_;have f:=f.pk [3,6,7,8,9];refine wp_seq_k fun _ k2=>?_;refine f.splitD 9 rfl (fun h0 f=>?_) (fun h0 f=>?_)
 ·refine C.condT f rfl ?_;refine wp_skip (k2 _ _ ?_);have f27:=f.pk [3,6,7,8,9];refine wp_seq_k fun _ k2=>?_;refine wp_block ?_;refine C.sk fun _ k3=>?_;refine L.va f27 (E.indexA f27 (by rfl) U90 Z0 rfl rfl (by omega) (by omega)) fun _ f27=>?_;refine L.va f27 (E.load f27 U3 rfl rfl (hcell (by omega))) fun _ f27=>?_;refine L.ag f27 fun _ f27=>?_;have f27:=f27.pk [3,5,6,7,8,9,10,11];refine wn k3 (C.sk fun _ k3=>?_);refine L.mv f27 fun _ f27=>?_;refine L.mv f27 fun _ f27=>?_;refine L.va f27 (E.neq f27 rfl rfl) fun _ f27=>?_;refine wn k3 ?_;have f27:=f27.pk [3,5,6,7,8,9,10,11,12,13,14];refine f27.splitN 14 rfl (fun h1 f27=>?_) (fun h1 f27=>?_)
  ·refine C.condT f27 rfl ?_;refine C.sk fun _ k3=>?_;refine L.mv f27 fun _ f28=>?_;refine L.ag f28 fun _ f28=>?_;have f28:=f28.pk [2,3,5,6,7,8,9,10,11,12,13,14,15];refine wn k3 (wp_ret ?_); (try simp only [xt,xb]); refine C.ret f28 rfl rfl ?_;exact ⟨rfl,by rcases (show k = 0 ∨ k = 1 by omega) with rfl | rfl <;> simp_all⟩
  refine C.condF f27 rfl ?_;refine wp_skip (k2 _ _ ?_);have f27:=f27.pk [3,5,6,7,8,9,10,11,12,13,14];refine C.region ?_;refine L.va f27 (E.add f27 rfl rfl (IntWalk.i64_in _ (by omega))) fun _ f27=>?_;refine L.mv f27 fun _ f27=>?_;refine wpList_nil (hKL4 _ _ (gk5 - 1) ?_ ?_)
  ·omega
  exact ⟨rfl,k + 1,by omega,fun _=>by by_cases hk0 : k = 0 <;> simp [hk0] at h1 <;> first | exact h1 | exact hx (by omega),fun _=>by have hk0 : ¬ k = 0:=(by omega); simpa [hk0] using h1,f27.sub (sx (sx (sx (sx sn))))⟩
 refine C.condF f rfl ?_;refine wp_exit (k1 _ _ ?_);have f:=f.pk [3];refine C.sk fun _ k1=>?_;refine L.mv f fun _ f=>?_;refine L.ag f fun _ f=>?_;have f:=f.pk [2];refine wn k1 (wp_ret ?_); (try simp only [xt,xb]); refine C.ret f rfl rfl ?_;exact ⟨rfl,by simp [hx (by omega),hy (by omega)]⟩
theorem lives_any (p q : Dt) (w : World) : Calls Tryz.prog 106 #[.agg (dcell p).toArray,.agg (dcell q).toArray] w (fun e w'=>Kept [] w w' ∧ e = .returned (.int .i64 (livesI p q))):=by
 have HK : Kept [] w w:=Kept.refl [] w;refine C.enter Tryz.func106 rfl Tryz.ntmps106 rfl ?_;intro a f;have f : Fr 17 a [(0,.agg (dcell p).toArray),(1,.agg (dcell q).toArray)]:=f;refine C.sk fun _ k=>?_;refine L.box f wantedN (by decide) rfl rfl fun _ w1 g0 N f=>?_;obtain ⟨Bg0,q1,log0,ltg0,szw1⟩:=N.al;have frg0:=HK.lo log0;replace HK:=HK.z q1;clear N q1;refine L.box f wantedN (by decide) rfl rfl fun _ w2 g1 N f=>?_;obtain ⟨Bg1,q1,log1,ltg1,szw2⟩:=N.al;have frg1:=HK.lo log1;have neg0_g1 : g0 ≠ g1:=by have:=Bg0.lt; omega
 replace HK:=HK.z q1;replace Bg0:=Bg0.z q1;clear N q1;refine L.ag f fun _ f=>?_;refine wn k ?_;have f:=f.pk [2,3,4];refine wp_seq_k fun _ k=>?_;refine R.begin (S:=fun W=>Kept [] w2 W) (by kernel_rfl) (by exact (Kept.refl _ _).drewN 1) ?_;have s : Kept [] w2 (w2.drewN 1):=(Kept.refl _ _).drewN 1;have hd1 : Kept [] w2 (w2.drewN 1):=(Kept.refl _ _).drewN 1;obtain ⟨w3,hww3⟩ : ∃ W,W = w2.drewN 1:=⟨_,rfl⟩;rw [← hww3] at s hd1 ⊢;clear hww3;have szw3:=s.size;refine R.p 0 f rfl s (E.fa 0 f U46 rfl Z0) fun _ f=>?_;refine R.t 1 f rfl s (fun W hW=>(E.load f U3 rfl rfl ((Bg0.z hW).cl rfl))) fun _ f=>?_;refine R.p 2 f rfl s (E.fa 0 f U46 rfl Z0) fun _ f=>?_;refine R.t 3 f rfl s (fun W hW=>(E.load f U3 rfl rfl ((Bg1.z hW).cl rfl))) fun _ f=>?_;refine R.p 5 f rfl s (E.fa 1 f U46 rfl Z0) fun _ f=>?_;refine R.t 6 f rfl s (fun W hW=>(E.load f U3 rfl rfl ((Bg0.z hW).cl rfl))) fun _ f=>?_;refine R.p 7 f rfl s (E.fa 1 f U46 rfl Z0) fun _ f=>?_;refine R.t 8 f rfl s (fun W hW=>(E.load f U3 rfl rfl ((Bg1.z hW).cl rfl))) fun _ f=>?_;refine R.cl 4 f rfl (rc2 f Tryz.call87) (cmp_any _ _ _) ?_;rintro e w3x ⟨rfl,rfl⟩;refine ⟨_,rfl,s,fun _ f=>?_⟩;refine R.cl 9 f rfl (rc2 f Tryz.call87) (cmp_any _ _ _) ?_;rintro e w3x ⟨rfl,rfl⟩;refine ⟨_,rfl,s,fun _ f=>?_⟩;refine R.on 10 ?_;refine O.buildSlice f rfl wantedN (by decide) (parts2 f rfl rfl) U90 Z1 rfl rfl (Z2 _ _) (fun _ hk=>s.trans hk (by simp)) fun _ w4 g3 N hSn f=>?_
 obtain ⟨Bg3,q1,log3,ltg3,szw4⟩:=N.al;have szSw4:=s.size;clear N q1;replace s:=hSn;clear hSn;refine R.cl 11 f rfl (rc1 f Tryz.call84) (or_any _ _ _ _ _ Bg3) ?_;rintro e w4x ⟨rfl,rfl⟩;refine ⟨_,rfl,s,fun _ f=>?_⟩;refine R.p 12 f rfl s (E.assign f rfl) fun _ f=>?_;have szw4r:=s.size;replace HK:=HK.z s;replace Bg0:=Bg0.z s;replace Bg1:=Bg1.z s;clear s;refine R.done (by kernel_rfl) (k _ _ ?_);have f:=f.pk [4];refine wp_ret ?_; (try simp only [xt,xb]); refine C.ret f rfl rfl ?_;exact ⟨HK,rfl⟩
theorem may_any (d : Dt) (w : World) : Calls Tryz.prog 102 #[.agg (dcell d).toArray] w (fun e w'=>Kept [] w w' ∧ e = .returned (.bool (mayB d))):=by
 have HK : Kept [] w w:=Kept.refl [] w;refine C.enter Tryz.func102 rfl Tryz.ntmps102 rfl ?_;intro a f;have f : Fr 21 a [(0,.agg (dcell d).toArray)]:=f;refine C.sk fun _ k=>?_;refine L.box f wantedN (by decide) rfl rfl fun _ w1 g0 N f=>?_;obtain ⟨Bg0,q,log0,ltg0,szw1⟩:=N.al;have frg0:=HK.lo log0;replace HK:=HK.z q;clear N q;refine L.ag f fun _ f=>?_;have f:=f.pk [1,2];refine wn k (C.sk fun _ k=>?_);refine L.fa 0 f U46 rfl Z0 fun _ f=>?_;refine L.va f (E.load f U3 rfl rfl ((Bg0).cl rfl)) fun _ f=>?_;refine L.va f (E.geq f rfl rfl) fun _ f=>?_;refine L.mv f fun _ f=>?_;refine f.splitD 6 rfl (fun h0 f=>?_) (fun h0 f=>?_)
 ·refine L.fa 0 f U46 rfl Z0 (hw:=f.y) fun _ f28=>?_;refine L.va f28 (E.load f28 U3 rfl rfl ((Bg0).cl rfl)) (hw:=f28.y) fun _ f28=>?_;refine L.va f28 (E.lss f28 rfl rfl) (hw:=f28.y) fun _ f28=>?_;refine L.va f28 (E.pickT f28 rfl rfl) fun _ f28=>?_;refine L.mv f28 fun _ f28=>?_;refine f28.splitD 11 rfl (fun h1 f28=>?_) (fun h1 f28=>?_)
  ·refine L.fa 1 f28 U46 rfl Z0 (hw:=f28.y) fun _ f29=>?_;refine L.va f29 (E.load f29 U3 rfl rfl ((Bg0).cl rfl)) (hw:=f29.y) fun _ f29=>?_;refine L.va f29 (E.geq f29 rfl rfl) (hw:=f29.y) fun _ f29=>?_;refine L.va f29 (E.pickT f29 rfl rfl) fun _ f29=>?_;refine L.mv f29 fun _ f29=>?_;refine f29.splitD 16 rfl (fun h2 f29=>?_) (fun h2 f29=>?_)
   ·refine L.fa 2 f29 U46 rfl Z0 (hw:=f29.y) fun _ f30=>?_;refine L.va f30 (E.load f30 U3 rfl rfl ((Bg0).cl rfl)) (hw:=f30.y) fun _ f30=>?_;refine L.va f30 (E.geq f30 rfl rfl) (hw:=f30.y) fun _ f30=>?_;refine L.va f30 (E.pickT f30 rfl rfl) fun _ f30=>?_;refine L.ag f30 fun _ f30=>?_;have f30:=f30.pk [2];refine wn k (wp_ret ?_); (try simp only [xt,xb]); refine C.ret f30 rfl rfl ?_;exact ⟨HK,by simp [mayB, *]⟩
   refine L.run f29 (rest':=[]) (by kernel_rfl) fun _ f29=>?_;have f29:=f29.sub (sv 2 (.bool false) sn);refine wn k (wp_ret ?_); (try simp only [xt,xb]); refine C.ret f29 rfl rfl ?_;exact ⟨HK,by simp [mayB, *]⟩
  refine L.run f28 (rest':=[]) (by kernel_rfl) fun _ f28=>?_;have f28:=f28.sub (sv 2 (.bool false) sn);refine wn k (wp_ret ?_); (try simp only [xt,xb]); refine C.ret f28 rfl rfl ?_;exact ⟨HK,by simp [mayB, *]⟩
 refine L.run f (rest':=[]) (by kernel_rfl) fun _ f=>?_;have f:=f.sub (sv 2 (.bool false) sn);refine wn k (wp_ret ?_); (try simp only [xt,xb]); refine C.ret f rfl rfl ?_;exact ⟨HK,by simp [mayB, *]⟩
end Go.Proofs.YtekmhcdgmgbheaaGreatDoor
namespace Go.Proofs.YtekmhcdgmgbheaaGreatDoor
open Go.RowKit Go.Hub
theorem Z3 : (Tryz.prog.info? 46).map (·.size) = some 3:=by kernel_rfl
theorem right_any (l : List Dt) (A : Option Addr) (c : Nat) (w : World) (A1 : Ds w A l) (hm : l.length ≤ maxLen) : Calls Tryz.prog 100 #[.slice A l.length c] w (fun e w'=>Kept [] w w' ∧ e = .returned (.bool (rightB l))):=by
 have HK : Kept [] w w:=Kept.refl [] w;unfold maxLen at hm;refine C.enter Tryz.func100 rfl Tryz.ntmps100 rfl ?_;intro a1 f;have f : Fr 30 a1 [(0,.slice A l.length c)]:=f;refine C.sk fun _ k1=>?_;refine L.ag f fun _ f=>?_;refine wn k1 ?_;have f:=f.pk [0,2];refine wp_seq_k fun _ k1=>C.sk fun _ k2=>?_;refine L.mv f fun _ f=>?_;refine L.va f (E.lenL f U32 rfl) fun _ f=>?_;refine L.mv f fun _ f=>?_;refine wn k2 ?_;have f:=f.pk [0,2,5,6,7];refine wp_block ?_;refine C.loop (fun gk a W=>∃ k : Nat,k + gk = l.length ∧ Kept [] w W ∧ rightFrom none l = rightFrom (prevD l k) (l.drop k) ∧ Fr 30 a [(0,.slice A l.length c),(5,.slice A l.length c),(6,.int .i64 l.length),(7,.int .i64 k)]) (l.length) ?_ ?_
 ·exact ⟨0,by omega,HK,rfl,f.sub (sx (sx (sx (sx sn))))⟩
 intro gk4 _ w1 hI KL3 hKL3;obtain ⟨k,hk,HK,hr,f44⟩:=hI
 try clear f
 refine C.sk fun _ k2=>?_;refine L.va f44 (E.lss f44 rfl rfl) fun _ f=>?_;refine wn k2 ?_;have f:=f.pk [0,5,6,7,8];refine wp_seq_k fun _ k2=>?_;refine f.splitD 8 rfl (fun h0 f=>?_) (fun h0 f=>?_)
 ·obtain ⟨d,hd⟩ : ∃ d,l[k]? = some d:=⟨l[k]'(by omega),List.getElem?_eq_getElem _⟩;obtain ⟨b,off,hA⟩:=A1.addr (i:=k) (by omega);have hst:=right_step l k d hd;refine C.condT f rfl ?_;refine wp_skip (k2 _ _ ?_);have f44:=f.pk [0,5,6,7,8];refine wp_seq_k fun _ k2=>?_;refine wp_block ?_;refine C.sk fun _ k3=>?_;refine L.mv f44 fun _ f44=>?_;refine L.va f44 (E.indexA f44 (by assumption) U32 Z3 rfl rfl (by omega) (by omega)) fun _ f44=>?_;refine L.va f44 (E.loadR f44 U46 rfl Z3 rfl ((A1.kept HK).row hA hd) rfl) fun _ f44=>?_;refine L.alloc f44 wantedN (by decide) (z:=(.agg #[(.int .i64 0),(.int .i64 0),(.int .i64 0)])) (fun _=>by kernel_rfl) rfl fun _ w2 g1 N f44=>?_;obtain ⟨Bg1,q1,log1,ltg1,szw2⟩:=N.al;have frg1:=HK.lo log1;replace HK:=HK.z q1;clear N q1;refine L.ag f44 fun _ f44=>?_;refine L.storeR f44 wantedN Z3 rfl rfl rfl Bg1 rfl rfl fun _ w3 f44 NB3 ks3=>?_;have szw3:=ks3.size;replace HK:=HK.trans ks3 (by intro x hx hlt; simp at hx; subst hx; (exfalso; omega));replace Bg1:=NB3;clear ks3;refine wn k3 ?_;have f44:=f44.pk [0,3,4,5,6,7,8,9,10,11];refine wp_seq_k fun _ k3=>?_;refine R.begin (S:=fun W=>Kept [] w3 W) (by kernel_rfl) (by exact (Kept.refl _ _).drewN 1) ?_;have s : Kept [] w3 (w3.drewN 1):=(Kept.refl _ _).drewN 1;have hd4 : Kept [] w3 (w3.drewN 1):=(Kept.refl _ _).drewN 1;obtain ⟨w4,hww4⟩ : ∃ W,W = w3.drewN 1:=⟨_,rfl⟩;rw [← hww4] at s hd4 ⊢;clear hww4;have szw4:=s.size
  refine R.t 0 f44 rfl s (fun W hW=>(E.loadB f44 U46 rfl Z3 rfl (Bg1.z hW) rfl)) fun _ f44=>?_;refine R.cl 1 f44 rfl (rc1 f44 Tryz.call102) (may_any _ _) ?_;rintro e w5 ⟨q1,rfl⟩;replace s:=s.trans q1 (by simp);refine ⟨_,rfl,s,fun _ f44=>?_⟩;have szw5:=q1.size;clear q1;refine R.p 2 f44 rfl s (E.not f44 rfl) fun _ f44=>?_;refine R.mv 3 f44 rfl s fun _ f44=>?_;refine f44.splitNB 15 rfl (fun h1 f44=>?_) (fun h1 f44=>?_)
  ·refine R.ts 4 f44 rfl s f44.nF fun _ f45=>?_;refine R.ts 5 f45 rfl s f45.nF fun _ f45=>?_;refine R.ts 6 f45 rfl s f45.nF fun _ f45=>?_;refine R.ts 7 f45 rfl s f45.nU fun _ f45=>?_;refine R.ts 8 f45 rfl s f45.nU fun _ f45=>?_;refine R.ts 9 f45 rfl s f45.nU fun _ f45=>?_;refine R.ts 10 f45 rfl s f45.nU fun _ f45=>?_;refine R.ts 11 f45 rfl s f45.nU fun _ f45=>?_;refine R.ts 12 f45 rfl s f45.nU fun _ f45=>?_;refine R.ts 13 f45 rfl s f45.nU fun _ f45=>?_;refine R.ts 14 f45 rfl s f45.nU fun _ f45=>?_;refine R.ts 15 f45 rfl s f45.nF fun _ f45=>?_;refine R.p 16 f45 rfl s (E.pickT f45 rfl rfl) fun _ f45=>?_;have szw5r:=s.size;replace HK:=HK.z s;replace Bg1:=Bg1.z s;clear s;refine R.done (by kernel_rfl) (k3 _ _ ?_);have f45:=f45.pk [0,3,4,5,6,7,8,9,10,11,12,13,14,15,16,17,18,19,20,21,22,23,24,25,26,27,28];refine C.condT f45 rfl ?_;refine C.sk fun _ k4=>?_;refine L.ag f45 fun _ f45=>?_;have f45:=f45.pk [0,2,3,4,5,6,7,8,9,10,11,12,13,14,15,16,17,18,19,20,21,22,23,24,25,26,27,28];refine wn k4 (wp_ret ?_); (try simp only [xt,xb]); refine C.ret f45 rfl rfl ?_;exact ⟨HK,by unfold rightB; rw [hr,hst]; simp [*] <;> (intros; omega)⟩
  refine R.mv 4 f44 rfl s (hw:=f44.y) fun _ f44=>?_;refine R.p 5 f44 rfl s (E.gtr f44 rfl rfl) (hw:=f44.y) fun _ f44=>?_;refine R.mv 6 f44 rfl s (hw:=f44.y) fun _ f44=>?_;refine f44.splitD 18 rfl (fun h2 f44=>?_) (fun h2 f44=>?_)
  ·obtain ⟨q,hq⟩ : ∃ q,l[Int.toNat ((k : Int) - 1)]? = some q:=⟨l[Int.toNat ((k : Int) - 1)]'(by omega),List.getElem?_eq_getElem _⟩;rw [prev_some d (by omega) hq] at hst;refine R.mv 7 f44 rfl s (hw:=f44.y) fun _ f45=>?_;refine R.mv 8 f45 rfl s (hw:=f45.y) fun _ f45=>?_;refine R.p 9 f45 rfl s (E.sub f45 rfl rfl (IntWalk.i64_in _ (by omega))) (hw:=f45.y) fun _ f45=>?_;refine R.p 10 f45 rfl s (E.indexA f45 (by assumption) U32 Z3 rfl rfl (by omega) (by omega)) (hw:=f45.y) fun _ f45=>?_;refine R.t 11 f45 rfl s (fun W hW=>(E.loadR f45 U46 rfl Z3 rfl ((A1.kept (HK.z hW)).row hA hq) rfl)) (hw:=f45.y) fun _ f45=>?_;refine R.t 12 f45 rfl s (fun W hW=>(E.loadB f45 U46 rfl Z3 rfl (Bg1.z hW) rfl)) (hw:=f45.y) fun _ f45=>?_;refine R.call 13 f45 rfl rfl (by decide) (by kernel_rfl) f45.y (rc2 f45 Tryz.call106) (lives_any _ _ _) ?_;rintro e w6 ⟨q1,rfl⟩;replace s:=s.trans q1 (by simp);refine ⟨_,rfl,s,fun _ f45=>?_⟩;have szw6:=q1.size;clear q1;refine R.p 14 f45 rfl s (E.geq f45 rfl rfl) (hw:=f45.y) fun _ f45=>?_;refine R.p 15 f45 rfl s (E.pickT f45 rfl rfl) (hw:=f45.y) fun _ f45=>?_;refine R.p 16 f45 rfl s (E.pickF f45 rfl rfl) fun _ f45=>?_;have szw6r:=s.size;replace HK:=HK.z s;replace Bg1:=Bg1.z s;clear s;refine R.done (by kernel_rfl) (k3 _ _ ?_);have f45:=f45.pk [0,3,4,5,6,7,8,9,10,11,12,13,14,15,16,17,18,19,20,21,22,23,24,25,26,27,28];refine f45.splitD 28 rfl (fun h3 f45=>?_) (fun h3 f45=>?_)
   ·refine C.condT f45 rfl ?_;refine C.sk fun _ k4=>?_;refine L.ag f45 fun _ f46=>?_;have f46:=f46.pk [0,2,3,4,5,6,7,8,9,10,11,12,13,14,15,16,17,18,19,20,21,22,23,24,25,26,27,28];refine wn k4 (wp_ret ?_); (try simp only [xt,xb]); refine C.ret f46 rfl rfl ?_;exact ⟨HK,by unfold rightB; rw [hr,hst]; simp [*] <;> (intros; omega)⟩
   refine C.condF f45 rfl ?_;refine wp_skip (k2 _ _ ?_);have f45:=f45.pk [0,3,4,5,6,7,8,9,10,11,12,13,14,15,16,17,18,19,20,21,22,23,24,25,26,27,28];refine C.region ?_;refine L.va f45 (E.add f45 rfl rfl (IntWalk.i64_in _ (by omega))) fun _ f45=>?_;refine L.mv f45 fun _ f45=>?_;refine wpList_nil (hKL3 _ _ (gk4 - 1) ?_ ?_)
   ·omega
   exact ⟨k + 1,by omega,HK,by rw [hr,hst]; simp [*] <;> (intros; omega),f45.sub (sx (sx (sx (sx sn))))⟩
  rw [prev_none d (by omega)] at hst;refine R.ts 7 f44 rfl s f44.nT fun _ f44=>?_;refine R.ts 8 f44 rfl s f44.nT fun _ f44=>?_;refine R.ts 9 f44 rfl s f44.nT fun _ f44=>?_;refine R.ts 10 f44 rfl s f44.nT fun _ f44=>?_;refine R.ts 11 f44 rfl s f44.nT fun _ f44=>?_;refine R.ts 12 f44 rfl s f44.nT fun _ f44=>?_;refine R.ts 13 f44 rfl s f44.nT fun _ f44=>?_;refine R.ts 14 f44 rfl s f44.nT fun _ f44=>?_;refine R.p 15 f44 rfl s (E.pickF f44 rfl rfl) (hw:=f44.y) fun _ f44=>?_;refine R.p 16 f44 rfl s (E.pickF f44 rfl rfl) fun _ f44=>?_;have szw5r:=s.size;replace HK:=HK.z s;replace Bg1:=Bg1.z s;clear s;refine R.done (by kernel_rfl) (k3 _ _ ?_);have f44:=f44.pk [0,3,4,5,6,7,8,9,10,11,12,13,14,15,16,17,18,19,20,21,22,23,24,25,26,27,28];refine C.condF f44 rfl ?_;refine wp_skip (k2 _ _ ?_);have f44:=f44.pk [0,3,4,5,6,7,8,9,10,11,12,13,14,15,16,17,18,19,20,21,22,23,24,25,26,27,28];refine C.region ?_;refine L.va f44 (E.add f44 rfl rfl (IntWalk.i64_in _ (by omega))) fun _ f44=>?_;refine L.mv f44 fun _ f44=>?_;refine wpList_nil (hKL3 _ _ (gk4 - 1) ?_ ?_)
  ·omega
  exact ⟨k + 1,by omega,HK,by rw [hr,hst]; simp [*] <;> (intros; omega),f44.sub (sx (sx (sx (sx sn))))⟩
 refine C.condF f rfl ?_;refine wp_exit (k1 _ _ ?_);have f:=f.sub sn;refine C.sk fun _ k1=>?_;refine L.ag f fun _ f=>?_;have f:=f.pk [2];refine wn k1 (wp_ret ?_); (try simp only [xt,xb]); refine C.ret f rfl rfl ?_;exact ⟨HK,by unfold rightB; rw [hr,List.drop_eq_nil_of_le (by omega)]; rfl⟩
end Go.Proofs.YtekmhcdgmgbheaaGreatDoor
namespace Go.Proofs.YtekmhcdgmgbheaaGreatDoor
open Go.RowKit Go.Hub
theorem Z4 (x0 : Int) (x1 : Int) : Tryz.prog.built 46 [(0,.int .i64 x0),(1,.int .i64 x1)] = some #[.int .i64 x0,.int .i64 x1,(.int .i64 0)]:=by kernel_rfl
def SearchPost (l : List Dt) (d : Dt) (w : World) (e : Ending) (w' : World) : Prop:=Kept [] w w' ∧ ∃ (i : Nat) (b : Bool),e = .returned (.tuple #[.int .i64 i,.bool b]) ∧ Srch l d i b
theorem search_any (l : List Dt) (A : Option Addr) (c : Nat) (d : Dt) (w : World) (A1 : Ds w A l) (hm : l.length ≤ 1000000) (hr : Rises l) : Calls Tryz.prog 117 #[.slice A l.length c,.agg (dcell d).toArray,.func (.func 106) #[] #[]] w (SearchPost l d w):=by
 have HK : Kept [] w w:=Kept.refl [] w;refine C.enter Tryz.func117 rfl Tryz.ntmps117 rfl ?_;intro a1 f;have f : Fr 49 a1 [(0,.slice A l.length c),(1,.agg (dcell d).toArray),(2,.func (.func 106) #[] #[])]:=f;refine C.sk fun _ k=>?_;refine L.box f wantedN (by decide) rfl rfl fun _ w1 g0 N f=>?_;obtain ⟨Bg0,q,log0,ltg0,szw1⟩:=N.al;have frg0:=HK.lo log0;replace HK:=HK.z q;clear N q;refine L.ag f fun _ f=>?_;refine L.ag f fun _ f=>?_;have f:=f.pk [0,2,4,6,7];refine wn k (C.sk fun _ k=>?_);refine L.mv f fun _ f=>?_;refine L.va f (E.lenL f U32 rfl) fun _ f=>?_;refine L.ag f fun _ f=>?_;have f:=f.pk [0,2,4,6,7,8];refine wn k (C.sk fun _ k=>?_);refine L.mv f fun _ f=>?_;refine L.ag f fun _ f=>?_;refine L.ag f fun _ f=>?_;refine wn k ?_;have f:=f.pk [0,2,4,6,7,8,9,10];refine wp_seq_k fun _ k=>?_;refine wp_block ?_;refine C.loop (fun gk a W=>∃ i j : Nat,j = i + gk ∧ Kept [] w W ∧ Half l d i j ∧ (∃ g,Blk W g 46 (dcell d).toArray ∧ Fr 49 a [(0,.slice A l.length c),(2,.func (.func 106) #[] #[]),(4,.pointer (some ⟨g,0,none⟩)),(8,.int .i64 l.length),(9,.int .i64 i),(10,.int .i64 j)])) (l.length) ?_ ?_
 ·exact ⟨0,l.length,by omega,HK,Half.start l d,_,Bg0,f.sub (sr rfl (sr rfl (sr rfl (sr rfl (sr rfl (sr rfl sn))))))⟩
 intro gk5 _ w2 hI KL4 hKL4;obtain ⟨i,j,hij,HK,H,g,B,f42⟩:=hI
 try clear f
 have hi:=H.ij;have hj:=H.jn;refine wp_seq_k fun _ k1=>C.sk fun _ k2=>?_;refine L.mv f42 fun _ f=>?_;refine L.mv f fun _ f=>?_;refine L.va f (E.lss f rfl rfl) fun _ f=>?_;refine wn k2 ?_;have f:=f.pk [0,2,4,8,9,10,15,16,17];refine f.splitD 17 rfl (fun h0 f=>?_) (fun h0 f=>?_)
 ·obtain ⟨m,hd'⟩ : ∃ m,l[(i + j) / 2]? = some m:=⟨l[(i + j) / 2]'(by omega),List.getElem?_eq_getElem _⟩;have hd : l[Int.toNat (((i : Int) + j) / 2)]? = some m:=by rw [show Int.toNat (((i : Int) + j) / 2) = (i + j) / 2 by omega]; exact hd'
  obtain ⟨b,off,hA⟩:=A1.addr (i:=(i + j) / 2) (by omega);refine C.condT f rfl ?_;refine wp_skip (k1 _ _ ?_);have f42:=f.pk [0,2,4,8,9,10,15,16,17];refine wp_block ?_;refine C.sk fun _ k1=>?_;refine L.mv f42 fun _ f42=>?_;refine L.mv f42 fun _ f42=>?_;refine L.va f42 (E.add f42 rfl rfl (IntWalk.i64_in _ (by omega))) fun _ f42=>?_;refine L.va f42 (E.conv f42 U3 U124 rfl (IntWalk.u64_in _ (by omega))) fun _ f42=>?_;refine L.va f42 (E.shr f42 rfl rfl (by decide) (shr1 _)) fun _ f42=>?_;refine L.va f42 (E.conv f42 U124 U3 rfl (IntWalk.i64_in _ (by omega))) fun _ f42=>?_;refine L.ag f42 fun _ f42=>?_;refine wn k1 ?_;have f42:=f42.pk [0,2,4,8,9,10,11,15,16,17,18,19,20,21,22,23];refine wp_seq_k fun _ k1=>?_;refine R.begin (S:=fun W=>Kept [] w2 W) (by kernel_rfl) (by exact (Kept.refl _ _).drewN 1) ?_;have s : Kept [] w2 (w2.drewN 1):=(Kept.refl _ _).drewN 1;have hd5 : Kept [] w2 (w2.drewN 1):=(Kept.refl _ _).drewN 1;obtain ⟨w3,hww3⟩ : ∃ W,W = w2.drewN 1:=⟨_,rfl⟩;rw [← hww3] at s hd5 ⊢;clear hww3;have szw3:=s.size;refine R.mv 0 f42 rfl s fun _ f42=>?_;refine R.mv 1 f42 rfl s fun _ f42=>?_;refine R.mv 2 f42 rfl s fun _ f42=>?_;refine R.p 3 f42 rfl s (E.indexA f42 (by assumption) U32 Z3 rfl rfl (by omega) (by omega)) fun _ f42=>?_;refine R.t 4 f42 rfl s (fun W hW=>(E.loadR f42 U46 rfl Z3 rfl ((A1.kept (HK.z hW)).row hA hd) rfl)) fun _ f42=>?_
  refine R.t 5 f42 rfl s (fun W hW=>(E.loadB f42 U46 rfl Z3 rfl (B.z hW) rfl)) fun _ f42=>?_;refine R.cl 6 f42 rfl (cv2_0 f42 rfl Tryz.call106 rfl rfl) (lives_any _ _ _) ?_;rintro e w4 ⟨q,rfl⟩;replace s:=s.trans q (by simp);refine ⟨_,rfl,s,fun _ f42=>?_⟩;have szw4:=q.size;clear q;refine R.p 7 f42 rfl s (E.lss f42 rfl rfl) fun _ f42=>?_;have szw4r:=s.size;replace HK:=HK.z s;replace B:=B.z s;clear s;refine R.done (by kernel_rfl) (k1 _ _ ?_);have f42:=f42.pk [0,2,4,8,9,10,11,15,16,17,18,19,20,21,22,23,24,25,26,27,28,29,30,31];refine f42.splitD 31 rfl (fun h1 f42=>?_) (fun h1 f42=>?_)
  ·refine C.condT f42 rfl ?_;refine C.region ?_;refine L.mv f42 fun _ f43=>?_;refine L.va f43 (E.add f43 rfl rfl (IntWalk.i64_in _ (by omega))) fun _ f43=>?_;refine L.ag f43 fun _ f43=>?_;refine wpList_nil (hKL4 _ _ (j - ((i + j) / 2 + 1)) ?_ ?_)
   ·omega
   exact ⟨(i + j) / 2 + 1,j,by omega,HK,by have:=H.right hr (by omega) (by omega) hd' ((lives_lt _ _).1 h1); exact this,g,B,f43.sub (sx (sx (sx (sx (sx (sx sn))))))⟩
  refine C.condF f42 rfl ?_;refine C.region ?_;refine L.mv f42 fun _ f42=>?_;refine L.ag f42 fun _ f42=>?_;refine wpList_nil (hKL4 _ _ ((i + j) / 2 - i) ?_ ?_)
  ·omega
  exact ⟨i,(i + j) / 2,by omega,HK,by have:=H.left hr (by omega) (by omega) hd' ((lives_ge _ _).1 (by omega)); exact this,g,B,f42.sub (sx (sx (sx (sx (sx (sx sn))))))⟩
 obtain rfl : i = j:=by omega
 refine C.condF f rfl ?_;refine wp_exit (k _ _ ?_);have f:=f.pk [0,2,4,8,9];refine wp_seq_k fun _ k=>?_;refine R.begin (S:=fun W=>Kept [] w2 W) (by kernel_rfl) (by exact (Kept.refl _ _).drewN 1) ?_;have s : Kept [] w2 (w2.drewN 1):=(Kept.refl _ _).drewN 1;have hd8 : Kept [] w2 (w2.drewN 1):=(Kept.refl _ _).drewN 1;obtain ⟨w3,hww3⟩ : ∃ W,W = w2.drewN 1:=⟨_,rfl⟩;rw [← hww3] at s hd8 ⊢;clear hww3;have szw3:=s.size;refine R.mv 0 f rfl s fun _ f=>?_;refine R.mv 1 f rfl s fun _ f=>?_;refine R.mv 2 f rfl s fun _ f=>?_;refine R.p 3 f rfl s (E.lss f rfl rfl) fun _ f=>?_;refine R.mv 4 f rfl s fun _ f=>?_;refine f.splitD 39 rfl (fun h2 f=>?_) (fun h2 f=>?_)
 ·obtain ⟨m,hd⟩ : ∃ m,l[i]? = some m:=⟨l[i]'(by omega),List.getElem?_eq_getElem _⟩;obtain ⟨b,off,hA⟩:=A1.addr (i:=i) (by omega);refine R.mv 5 f rfl s (hw:=f.y) fun _ f42=>?_;refine R.mv 6 f42 rfl s (hw:=f42.y) fun _ f42=>?_;refine R.mv 7 f42 rfl s (hw:=f42.y) fun _ f42=>?_;refine R.p 8 f42 rfl s (E.indexA f42 (by assumption) U32 Z3 rfl rfl (by omega) (by omega)) (hw:=f42.y) fun _ f42=>?_;refine R.t 9 f42 rfl s (fun W hW=>(E.loadR f42 U46 rfl Z3 rfl ((A1.kept (HK.z hW)).row hA hd) rfl)) (hw:=f42.y) fun _ f42=>?_;refine R.t 10 f42 rfl s (fun W hW=>(E.loadB f42 U46 rfl Z3 rfl (B.z hW) rfl)) (hw:=f42.y) fun _ f42=>?_;refine R.call 11 f42 rfl rfl (by decide) (by kernel_rfl) f42.y (cv2_0 f42 rfl Tryz.call106 rfl rfl) (lives_any _ _ _) ?_;rintro e w4 ⟨q,rfl⟩;replace s:=s.trans q (by simp);refine ⟨_,rfl,s,fun _ f42=>?_⟩;have szw4:=q.size;clear q;refine R.p 12 f42 rfl s (E.eql f42 rfl rfl) (hw:=f42.y) fun _ f42=>?_;refine R.p 13 f42 rfl s (E.pickT f42 rfl rfl) fun _ f42=>?_;refine R.p 14 f42 rfl s (E.assign f42 rfl) fun _ f42=>?_;refine R.p 15 f42 rfl s (E.assign f42 rfl) fun _ f42=>?_;have szw4r:=s.size;replace HK:=HK.z s;replace B:=B.z s;clear s;refine R.done (by kernel_rfl) (k _ _ ?_);have f42:=f42.pk [6,7];refine wp_ret ?_; (try simp only [xt,xb]); refine C.ret2 f42 rfl rfl rfl ?_;exact ⟨HK,_,_,rfl,H.found1 hd⟩
 have hd : l[i]? = none:=List.getElem?_eq_none (by omega);refine R.ts 5 f rfl s f.nT fun _ f=>?_;refine R.ts 6 f rfl s f.nT fun _ f=>?_;refine R.ts 7 f rfl s f.nT fun _ f=>?_;refine R.ts 8 f rfl s f.nT fun _ f=>?_;refine R.ts 9 f rfl s f.nT fun _ f=>?_;refine R.ts 10 f rfl s f.nT fun _ f=>?_;refine R.ts 11 f rfl s f.nT fun _ f=>?_;refine R.ts 12 f rfl s f.nT fun _ f=>?_;refine R.p 13 f rfl s (E.pickF f rfl rfl) fun _ f=>?_;refine R.p 14 f rfl s (E.assign f rfl) fun _ f=>?_;refine R.p 15 f rfl s (E.assign f rfl) fun _ f=>?_;have szw3r:=s.size;replace HK:=HK.z s;replace B:=B.z s;clear s;refine R.done (by kernel_rfl) (k _ _ ?_);have f:=f.pk [6,7];refine wp_ret ?_; (try simp only [xt,xb]); refine C.ret2 f rfl rfl rfl ?_;exact ⟨HK,_,_,rfl,H.found0 hd⟩
theorem topf_any (l : List Dt) (A : Option Addr) (c : Nat) (d : Dt) (w : World) (A1 : Ds w A l) (hm : l.length ≤ 1000000) (hr : rightB l = true) : Calls Tryz.prog 101 #[.slice A l.length c,.agg (dcell d).toArray] w (fun e w'=>Kept [] w w' ∧ e = .returned (.int .i64 (topI l d.node d.epoch))):=by
 have HK : Kept [] w w:=Kept.refl [] w;refine C.enter Tryz.func101 rfl Tryz.ntmps101 rfl ?_;intro a f;have f : Fr 19 a [(0,.slice A l.length c),(1,.agg (dcell d).toArray)]:=f;refine C.sk fun _ k=>?_;refine L.box f wantedN (by decide) rfl rfl fun _ w1 g0 N f=>?_;obtain ⟨Bg0,q,log0,ltg0,szw1⟩:=N.al;have frg0:=HK.lo log0;replace HK:=HK.z q;clear N q;refine L.ag f fun _ f=>?_;refine wn k ?_;have f:=f.pk [0,3,4];refine wp_seq_k fun _ k=>C.sk fun _ k1=>?_;refine L.mv f fun _ f=>?_;refine L.va f (E.loadB f U46 rfl Z3 rfl (Bg0) rfl) fun _ f=>?_;refine L.cl f (rc3 f Tryz.call117) (search_any l _ _ d _ (A1.kept HK) hm (rises hr)) ?_;rintro e w2 ⟨q,i,b,rfl,hfd⟩;refine ⟨_,rfl,fun _ f=>?_⟩;have szw2:=q.size;replace HK:=HK.z q;replace Bg0:=Bg0.z q;clear q;refine L.mv f fun _ f=>?_;refine L.va f (E.extract f rfl rfl) fun _ f=>?_;refine L.va f (E.extract f rfl rfl) fun _ f=>?_;refine L.ag f fun _ f=>?_;refine L.ag f fun _ f=>?_;have f:=f.pk [0,4,5,6];refine wn k1 (C.sk fun _ k1=>?_);refine L.mv f fun _ f=>?_;refine wn k1 ?_;have f:=f.pk [0,4,5,13];refine f.split 13 rfl (fun h0 f24=>?_) (fun h0 f24=>?_)
 ·clear f;subst h0;obtain ⟨m,hd,hn⟩:=hfd.is_top hr;have hlt:=(List.getElem?_eq_some_iff.1 hd).1;obtain ⟨b,off,hA⟩:=A1.addr (i:=i) hlt;refine C.condT f24 rfl ?_;refine C.sk fun _ k1=>?_;refine L.mv f24 fun _ f25=>?_;refine L.mv f25 fun _ f25=>?_;refine L.va f25 (E.indexA f25 (by assumption) U32 Z3 rfl rfl (by omega) (by omega)) fun _ f25=>?_;refine L.fa 2 f25 U46 rfl Z0 fun _ f25=>?_;refine L.va f25 (by (exact E.load f25 U3 rfl rfl (by have:=(A1.kept HK).row hA hd 2 _ rfl; simpa [Nat.add_assoc] using this))) fun _ f25=>?_;refine L.ag f25 fun _ f25=>?_;have f25:=f25.pk [4];refine wn k1 (wp_ret ?_); (try simp only [xt,xb]); refine C.ret f25 rfl rfl ?_;exact ⟨HK,by rw [← hn]⟩
 clear f;subst h0;refine C.condF f24 rfl ?_;refine wp_skip (k _ _ ?_);have f:=f24.pk [4];refine C.sk fun _ k=>?_;refine L.ag f fun _ f=>?_;have f:=f.pk [4];refine wn k (wp_ret ?_); (try simp only [xt,xb]); refine C.ret f rfl rfl ?_;exact ⟨HK,by rw [hfd.top (rises hr)]⟩
theorem Top_any (l : List Dt) (A : Option Addr) (c : Nat) (x y : Int) (w : World) (A1 : Ds w A l) (hm : l.length ≤ 1000000) : Calls Tryz.prog 66 #[.slice A l.length c,.int .i64 x,.int .i64 y] w (fun e w'=>Kept [] w w' ∧ e = .returned (.int .i64 (topR l x y))):=by
 have HK : Kept [] w w:=Kept.refl [] w;refine C.enter Tryz.func66 rfl Tryz.ntmps66 rfl ?_;intro a f;have f : Fr 15 a [(0,.slice A l.length c),(1,.int .i64 x),(2,.int .i64 y)]:=f;refine C.sk fun _ k=>?_;refine L.ag f fun _ f=>?_;refine wn k ?_;have f:=f.pk [0,1,2,6];refine wp_seq_k fun _ k=>C.sk fun _ k1=>?_;refine L.mv f fun _ f=>?_;refine L.cl f (rc1 f Tryz.call100) (right_any l _ _ _ (A1.kept HK) (by unfold maxLen; omega)) ?_;rintro e w1 ⟨q,rfl⟩;refine ⟨_,rfl,fun _ f=>?_⟩;have szw1:=q.size;replace HK:=HK.z q;clear q;refine L.va f (E.not f rfl) fun _ f=>?_;refine wn k1 ?_;have f:=f.pk [0,1,2,6,9];refine f.splitNB 9 rfl (fun h0 f=>?_) (fun h0 f=>?_)
 ·refine C.condT f rfl ?_;refine C.sk fun _ k1=>?_;refine L.ag f fun _ f17=>?_;have f17:=f17.pk [0,1,2,6];refine wn k1 (wp_ret ?_); (try simp only [xt,xb]); refine C.ret f17 rfl rfl ?_;exact ⟨HK,by simp [topR, *]⟩
 have hrb:=h0;refine C.condF f rfl ?_;refine wp_skip (k _ _ ?_);have f:=f.pk [0,1,2,6];refine C.sk fun _ k=>?_;refine L.mv f fun _ f=>?_;refine L.mv f fun _ f=>?_;refine L.mv f fun _ f=>?_;refine L.va f (E.build f (parts2 f rfl rfl) (Z4 _ _)) fun _ f=>?_;refine L.cl f (rc2 f Tryz.call101) (topf_any l _ _ ⟨x,y,0⟩ _ (A1.kept HK) hm hrb) ?_;rintro e w2 ⟨q,rfl⟩;refine ⟨_,rfl,fun _ f=>?_⟩;have szw2:=q.size;replace HK:=HK.z q;clear q;refine L.ag f fun _ f=>?_;have f:=f.pk [6];refine wn k (wp_ret ?_); (try simp only [xt,xb]); refine C.ret f rfl rfl ?_;exact ⟨HK,by simp [topR,hrb]⟩
theorem Has_any (l : List Dt) (A : Option Addr) (c : Nat) (d : Dt) (w : World) (A1 : Ds w A l) (hm : l.length ≤ 1000000) : Calls Tryz.prog 49 #[.slice A l.length c,.agg (dcell d).toArray] w (fun e w'=>Kept [] w w' ∧ e = .returned (.bool (hasB l d))):=by
 have HK : Kept [] w w:=Kept.refl [] w;refine C.enter Tryz.func49 rfl Tryz.ntmps49 rfl ?_;intro a f;have f : Fr 19 a [(0,.slice A l.length c),(1,.agg (dcell d).toArray)]:=f;refine C.sk fun _ k=>?_;refine L.box f wantedN (by decide) rfl rfl fun _ w1 g0 N f=>?_;obtain ⟨Bg0,q,log0,ltg0,szw1⟩:=N.al;have frg0:=HK.lo log0;replace HK:=HK.z q;clear N q;refine L.ag f fun _ f=>?_;refine wn k ?_;have f:=f.pk [0,3,4];refine wp_seq_k fun _ k=>?_;refine R.begin (S:=fun W=>Kept [] w1 W) (by kernel_rfl) (by exact (Kept.refl _ _).drewN 1) ?_;have s : Kept [] w1 (w1.drewN 1):=(Kept.refl _ _).drewN 1;have hd1 : Kept [] w1 (w1.drewN 1):=(Kept.refl _ _).drewN 1;obtain ⟨w2,hww2⟩ : ∃ W,W = w1.drewN 1:=⟨_,rfl⟩;rw [← hww2] at s hd1 ⊢;clear hww2;have szw2:=s.size;refine R.p 0 f rfl s (E.fa 2 f U46 rfl Z0) fun _ f=>?_;refine R.t 1 f rfl s (fun W hW=>(E.load f U3 rfl rfl ((Bg0.z hW).cl rfl))) fun _ f=>?_;refine R.p 2 f rfl s (E.geq f rfl rfl) fun _ f=>?_;refine R.mv 3 f rfl s fun _ f=>?_;refine f.splitD 8 rfl (fun h0 f=>?_) (fun h0 f=>?_)
 ·refine R.p 4 f rfl s (E.fa 2 f U46 rfl Z0) (hw:=f.y) fun _ f22=>?_;refine R.t 5 f22 rfl s (fun W hW=>(E.load f22 U3 rfl rfl ((Bg0.z hW).cl rfl))) (hw:=f22.y) fun _ f22=>?_;refine R.mv 6 f22 rfl s (hw:=f22.y) fun _ f22=>?_;refine R.p 7 f22 rfl s (E.fa 0 f22 U46 rfl Z0) (hw:=f22.y) fun _ f22=>?_;refine R.t 8 f22 rfl s (fun W hW=>(E.load f22 U3 rfl rfl ((Bg0.z hW).cl rfl))) (hw:=f22.y) fun _ f22=>?_;refine R.p 9 f22 rfl s (E.fa 1 f22 U46 rfl Z0) (hw:=f22.y) fun _ f22=>?_;refine R.t 10 f22 rfl s (fun W hW=>(E.load f22 U3 rfl rfl ((Bg0.z hW).cl rfl))) (hw:=f22.y) fun _ f22=>?_;refine R.call 11 f22 rfl rfl (by decide) (by kernel_rfl) f22.y (rc3 f22 Tryz.call66) (Top_any l _ _ _ _ _ ((A1.kept HK).kept s) hm) ?_;rintro e w3 ⟨q,rfl⟩;replace s:=s.trans q (by simp);refine ⟨_,rfl,s,fun _ f22=>?_⟩;have szw3:=q.size;clear q;refine R.p 12 f22 rfl s (E.leq f22 rfl rfl) (hw:=f22.y) fun _ f22=>?_;refine R.p 13 f22 rfl s (E.pickT f22 rfl rfl) fun _ f22=>?_;refine R.p 14 f22 rfl s (E.assign f22 rfl) fun _ f22=>?_;have szw3r:=s.size;replace HK:=HK.z s;replace Bg0:=Bg0.z s;clear s;refine R.done (by kernel_rfl) (k _ _ ?_);have f22:=f22.pk [4];refine wp_ret ?_; (try simp only [xt,xb]); refine C.ret f22 rfl rfl ?_;exact ⟨HK,by simp [hasB, *]⟩
 refine R.ts 4 f rfl s f.nT fun _ f=>?_;refine R.ts 5 f rfl s f.nT fun _ f=>?_;refine R.ts 6 f rfl s f.nT fun _ f=>?_;refine R.ts 7 f rfl s f.nT fun _ f=>?_;refine R.ts 8 f rfl s f.nT fun _ f=>?_;refine R.ts 9 f rfl s f.nT fun _ f=>?_;refine R.ts 10 f rfl s f.nT fun _ f=>?_;refine R.ts 11 f rfl s f.nT fun _ f=>?_;refine R.ts 12 f rfl s f.nT fun _ f=>?_;refine R.p 13 f rfl s (E.pickF f rfl rfl) fun _ f=>?_;refine R.p 14 f rfl s (E.assign f rfl) fun _ f=>?_;have szw2r:=s.size;replace HK:=HK.z s;replace Bg0:=Bg0.z s;clear s;refine R.done (by kernel_rfl) (k _ _ ?_);have f:=f.pk [4];refine wp_ret ?_; (try simp only [xt,xb]); refine C.ret f rfl rfl ?_;exact ⟨HK,by simp [hasB, *]⟩
end Go.Proofs.YtekmhcdgmgbheaaGreatDoor
namespace Go.Proofs.YtekmhcdgmgbheaaGreatDoor
open Go.RowKit Go.Hub
theorem Z5 : (Tryz.prog.info? 46).map (fun i=>(i.zero,i.size,i.bytes)) = some (some (.agg #[(.int .i64 0),(.int .i64 0),(.int .i64 0)]),3,24):=by kernel_rfl
def DotsPost (l : List Dt) (w : World) (e : Ending) (w' : World) : Prop:=Kept [] w w' ∧ ∃ A c,e = .returned (.slice A l.length c) ∧ Fresh w w' 46 3 A l.length c (dcells l)
theorem fields46 : (Tryz.prog.fieldsOf 46).toList = [{ name := "Node", type := 3, offset := 0, embedded := false, tag := "", pkgPath := "", byteOffset := 0 }, { name := "Epoch", type := 3, offset := 1, embedded := false, tag := "", pkgPath := "", byteOffset := 8 }, { name := "N", type := 3, offset := 2, embedded := false, tag := "", pkgPath := "", byteOffset := 16 }] := by kernel_rfl
theorem neqDot (x y : Operand) (d d' : Dt) (w : World) : (do eqGuard .neq 46 x y (.agg (dcell d).toArray) (.agg (dcell d').toArray); binOp .neq 46 (.agg (dcell d).toArray) (.agg (dcell d').toArray) : Sem Value).run Tryz.prog w = .ok (.bool (!decide (d = d'))) w:=by
  rw [Sem.run_bind,run_eqGuard_agg w .neq 46 x y _ _ (by kernel_rfl)];simp only [Result.andThen_ok];rw [run_neq_struct,run_equalIn_struct w 9999 46 _ _ (by kernel_rfl) (by kernel_rfl)];rw [fields46];simp [go_sem];obtain ⟨a,b,c⟩:=d;obtain ⟨a',b',c'⟩:=d'
  by_cases h1 : a = a' <;> by_cases h2 : b = b' <;> by_cases h3 : c = c' <;> simp [h1,h2,h3]
theorem clone_any (l : List Dt) (A : Option Addr) (c : Nat) (w : World) (A1 : Ds w A l) (hm : l.length ≤ 1000000) : Calls Tryz.prog 62 #[.slice A l.length c] w (DotsPost l w):=by
 have HK : Kept [] w w:=Kept.refl [] w;refine C.enter Tryz.func62 rfl Tryz.ntmps62 rfl ?_;intro a f;have f : Fr 8 a [(0,.slice A l.length c)]:=f;refine C.sk fun _ k1=>?_;refine L.ag f fun _ f=>?_;refine wn k1 ?_;have f:=f.pk [0,2];refine wp_seq_k fun _ k1=>C.sk fun _ k2=>?_;refine L.mv f fun _ f=>?_;refine L.va f (E.eqlNil f U32 rfl rfl) fun _ f=>?_;refine wn k2 ?_;have f:=f.pk [0,2,4];refine f.split 4 rfl (fun h0 f=>?_) (fun h0 f=>?_)
 ·have hA0 : A = none:=by simpa using h0
  have hl0 : l = []:=by
   rcases l with _ | ⟨d,r⟩
   ·rfl
   obtain ⟨b,off,e⟩:=A1.addr (i:=0) (by simp);rw [hA0] at e;cases e
  refine C.condT f rfl ?_;refine C.sk fun _ k2=>?_;refine L.ag f fun _ f14=>?_;have f14:=f14.pk [0,2];refine wn k2 (wp_ret ?_); (try simp only [xt,xb]); refine C.ret f14 rfl rfl ?_;subst hl0;exact ⟨HK,none,0,rfl,Fresh.nil _ _ _ _⟩
 refine C.condF f rfl ?_;refine wp_skip (k1 _ _ ?_);have f:=f.pk [0,2];refine C.sk fun _ k1=>?_;refine L.buildNone f wantedN (by decide) U32 Z3 fun _ w1 g0 N f=>?_;have OW:=N.own (k:=0) (size:=3) rfl (by decide);obtain ⟨Bg0,q,log0,ltg0,szw1⟩:=N.al;have frg0:=HK.lo log0;replace HK:=HK.z q;clear N q;refine L.mv f fun _ f=>?_;refine L.append f wantedN (by decide) U32 Z5 rfl rfl rfl rfl (OW) (A1.kept HK) (dcells_one l) (by unfold maxLen; omega) (by omega) fun _ w2 A2 c2 AP2 f=>?_;have kap2 : Kept [g0] w1 w2:=by simpa [Value.ownBlock] using AP2.kept
 have FR:=AP2.next (⟨OW,fun b hb=>by simp at hb; omega⟩ : Fresh w w1 46 3 (some ⟨g0,0,none⟩) 0 0 _) HK.size
 have szw2:=kap2.size;replace HK:=HK.trans kap2 (by intro x hx hlt; simp at hx; subst hx; (exfalso; omega));clear kap2;refine L.ag f fun _ f=>?_;have f:=f.pk [2];refine wn k1 (wp_ret ?_); (try simp only [xt,xb]); refine C.ret f rfl rfl ?_;simp only [Nat.zero_add] at FR f ⊢;exact ⟨HK,_,_,rfl,by simpa using FR⟩
theorem pair_any (x y : Int) (w : World) : Calls Tryz.prog 37 #[.int .i64 x,.int .i64 y] w (fun e w'=>w = w' ∧ e = .returned (.bool (pairB x y))):=by
 refine C.enter Tryz.func37 rfl Tryz.ntmps37 rfl ?_;intro a f;have f : Fr 15 a [(0,.int .i64 x),(1,.int .i64 y)]:=f;refine C.sk fun _ k=>?_;refine L.ag f fun _ f=>?_;have f:=f.pk [0,1,4];refine wn k (C.sk fun _ k=>?_);refine L.mv f fun _ f=>?_;refine L.va f (E.geq f rfl rfl) fun _ f=>?_;refine L.mv f fun _ f=>?_;refine f.splitD 7 rfl (fun h0 f=>?_) (fun h0 f=>?_)
 ·refine L.mv f (hw:=f.y) fun _ f18=>?_;refine L.va f18 (E.lss f18 rfl rfl) (hw:=f18.y) fun _ f18=>?_;refine L.va f18 (E.pickT f18 rfl rfl) fun _ f18=>?_;refine L.mv f18 fun _ f18=>?_;refine f18.splitD 11 rfl (fun h1 f18=>?_) (fun h1 f18=>?_)
  ·refine L.mv f18 (hw:=f18.y) fun _ f19=>?_;refine L.va f19 (E.geq f19 rfl rfl) (hw:=f19.y) fun _ f19=>?_;refine L.va f19 (E.pickT f19 rfl rfl) fun _ f19=>?_;refine L.ag f19 fun _ f19=>?_;have f19:=f19.pk [4];refine wn k (wp_ret ?_); (try simp only [xt,xb]); refine C.ret f19 rfl rfl ?_;exact ⟨rfl,by simp [pairB, *]⟩
  refine L.run f18 (rest':=[]) (by kernel_rfl) fun _ f18=>?_;have f18:=f18.sub (sv 4 (.bool false) sn);refine wn k (wp_ret ?_); (try simp only [xt,xb]); refine C.ret f18 rfl rfl ?_;exact ⟨rfl,by simp [pairB, *]⟩
 refine L.run f (rest':=[]) (by kernel_rfl) fun _ f=>?_;have f:=f.sub (sv 4 (.bool false) sn);refine wn k (wp_ret ?_); (try simp only [xt,xb]); refine C.ret f rfl rfl ?_;exact ⟨rfl,by simp [pairB, *]⟩
theorem ahead_any (p q : Dt) (w : World) : Calls Tryz.prog 78 #[.agg (dcell p).toArray,.agg (dcell q).toArray] w (fun e w'=>Kept [] w w' ∧ e = .returned (.bool (decide (lt2 p q)))):=by
 have HK : Kept [] w w:=Kept.refl [] w;refine C.enter Tryz.func78 rfl Tryz.ntmps78 rfl ?_;intro a f;have f : Fr 24 a [(0,.agg (dcell p).toArray),(1,.agg (dcell q).toArray)]:=f;refine C.sk fun _ k=>?_;refine L.box f wantedN (by decide) rfl rfl fun _ w1 g0 N f=>?_;obtain ⟨Bg0,q1,log0,ltg0,szw1⟩:=N.al;have frg0:=HK.lo log0;replace HK:=HK.z q1;clear N q1;refine L.box f wantedN (by decide) rfl rfl fun _ w2 g1 N f=>?_;obtain ⟨Bg1,q1,log1,ltg1,szw2⟩:=N.al;have frg1:=HK.lo log1;have neg0_g1 : g0 ≠ g1:=by have:=Bg0.lt; omega
 replace HK:=HK.z q1;replace Bg0:=Bg0.z q1;clear N q1;refine L.ag f fun _ f=>?_;have f:=f.pk [2,3,4];refine wn k (C.sk fun _ k=>?_);refine L.fa 0 f U46 rfl Z0 fun _ f=>?_;refine L.va f (E.load f U3 rfl rfl ((Bg0).cl rfl)) fun _ f=>?_;refine L.fa 0 f U46 rfl Z0 fun _ f=>?_;refine L.va f (E.load f U3 rfl rfl ((Bg1).cl rfl)) fun _ f=>?_;refine L.va f (E.lss f rfl rfl) fun _ f=>?_;refine L.mv f fun _ f=>?_;refine f.splitD 10 rfl (fun h0 f=>?_) (fun h0 f=>?_)
 ·refine L.run f (rest':=[]) (by kernel_rfl) fun _ f29=>?_;have f29:=f29.sub (sv 4 (.bool true) sn);refine wn k (wp_ret ?_); (try simp only [xt,xb]); refine C.ret f29 rfl rfl ?_;exact ⟨HK,by simp [lt2, *] <;> omega⟩
 refine L.fa 0 f U46 rfl Z0 (hw:=f.y) fun _ f=>?_;refine L.va f (E.load f U3 rfl rfl ((Bg0).cl rfl)) (hw:=f.y) fun _ f=>?_;refine L.fa 0 f U46 rfl Z0 (hw:=f.y) fun _ f=>?_;refine L.va f (E.load f U3 rfl rfl ((Bg1).cl rfl)) (hw:=f.y) fun _ f=>?_;refine L.va f (E.eql f rfl rfl) (hw:=f.y) fun _ f=>?_;refine L.mv f (hw:=f.y) fun _ f=>?_;refine f.splitD 16 rfl (fun h1 f=>?_) (fun h1 f=>?_)
 ·refine L.fa 1 f U46 rfl Z0 (hw:=f.y) fun _ f29=>?_;refine L.va f29 (E.load f29 U3 rfl rfl ((Bg0).cl rfl)) (hw:=f29.y) fun _ f29=>?_;refine L.fa 1 f29 U46 rfl Z0 (hw:=f29.y) fun _ f29=>?_;refine L.va f29 (E.load f29 U3 rfl rfl ((Bg1).cl rfl)) (hw:=f29.y) fun _ f29=>?_;refine L.va f29 (E.lss f29 rfl rfl) (hw:=f29.y) fun _ f29=>?_;refine L.va f29 (E.pickT f29 rfl rfl) (hw:=f29.y) fun _ f29=>?_;refine L.va f29 (E.pickF f29 rfl rfl) fun _ f29=>?_;refine L.ag f29 fun _ f29=>?_;have f29:=f29.pk [4];refine wn k (wp_ret ?_); (try simp only [xt,xb]); refine C.ret f29 rfl rfl ?_;exact ⟨HK,by simp [lt2, *] <;> omega⟩
 refine L.run f (rest':=[]) (by kernel_rfl) fun _ f=>?_;have f:=f.sub (sv 4 (.bool false) sn);refine wn k (wp_ret ?_); (try simp only [xt,xb]); refine C.ret f rfl rfl ?_;exact ⟨HK,by simp [lt2, *] <;> omega⟩
theorem rightR_any (l : List Dt) (A : Option Addr) (c : Nat) (w : World) (A1 : Ds w A l) (hm : l.length ≤ maxLen) : Calls Tryz.prog 77 #[.slice A l.length c] w (fun e w'=>Kept [] w w' ∧ e = .returned (.bool (rightB l))):=by
 have HK : Kept [] w w:=Kept.refl [] w;unfold maxLen at hm;refine C.enter Tryz.func77 rfl Tryz.ntmps77 rfl ?_;intro a1 f;have f : Fr 47 a1 [(0,.slice A l.length c)]:=f;refine C.sk fun _ k1=>?_;refine L.ag f fun _ f=>?_;refine wn k1 ?_;have f:=f.pk [0,2];refine wp_seq_k fun _ k1=>C.sk fun _ k2=>?_;refine L.ag f fun _ f=>?_;refine wn k2 ?_;have f:=f.pk [0,2,3];refine wp_block ?_;refine C.loop (fun gk a W=>∃ k : Nat,k + gk = l.length ∧ Kept [] w W ∧ rightFrom none l = rightFrom (prevD l k) (l.drop k) ∧ Fr 47 a [(0,.slice A l.length c),(3,.int .i64 k)]) (l.length) ?_ ?_
 ·exact ⟨0,by omega,HK,rfl,f.sub (sx (sx sn))⟩
 intro gk4 _ w1 hI KL3 hKL3;obtain ⟨k,hk,HK,hr,f60⟩:=hI
 try clear f
 refine wp_seq_k fun _ k2=>C.sk fun _ k3=>?_;refine L.mv f60 fun _ f=>?_;refine L.mv f fun _ f=>?_;refine L.va f (E.lenL f U32 rfl) fun _ f=>?_;refine L.va f (E.lss f rfl rfl) fun _ f=>?_;refine wn k3 ?_;have f:=f.pk [0,3,4,5,6,7];refine f.splitD 7 rfl (fun h0 f=>?_) (fun h0 f=>?_)
 ·obtain ⟨d,hd⟩ : ∃ d,l[k]? = some d:=⟨l[k]'(by omega),List.getElem?_eq_getElem _⟩;obtain ⟨bk,off,hA⟩:=A1.addr (i:=k) (by omega);have hst:=right_step l k d hd;refine C.condT f rfl ?_;refine wp_skip (k2 _ _ ?_);have f60:=f.pk [0,3,4,5,6,7];refine wp_seq_k fun _ k2=>?_;refine wp_block ?_;refine wp_seq_k fun _ k3=>?_;refine R.begin (S:=fun W=>Kept [] w1 W) (by kernel_rfl) (by exact (Kept.refl _ _).drewN 1) ?_;have s : Kept [] w1 (w1.drewN 1):=(Kept.refl _ _).drewN 1;have hd4 : Kept [] w1 (w1.drewN 1):=(Kept.refl _ _).drewN 1;obtain ⟨w2,hww2⟩ : ∃ W,W = w1.drewN 1:=⟨_,rfl⟩;rw [← hww2] at s hd4 ⊢;clear hww2;have szw2:=s.size;refine R.mv 0 f60 rfl s fun _ f60=>?_;refine R.mv 1 f60 rfl s fun _ f60=>?_;refine R.p 2 f60 rfl s (E.indexA f60 (by assumption) U32 Z3 rfl rfl (by omega) (by omega)) fun _ f60=>?_;refine R.p 3 f60 rfl s (E.fa 0 f60 U46 rfl Z0) fun _ f60=>?_;refine R.t 4 f60 rfl s (fun W hW=>(E.load f60 U3 rfl rfl ((A1.kept (HK.z hW)).row hA hd 0 _ rfl))) fun _ f60=>?_;refine R.mv 5 f60 rfl s fun _ f60=>?_;refine R.mv 6 f60 rfl s fun _ f60=>?_;refine R.p 7 f60 rfl s (E.indexA f60 (by assumption) U32 Z3 rfl rfl (by omega) (by omega)) fun _ f60=>?_;refine R.p 8 f60 rfl s (E.fa 1 f60 U46 rfl Z0) fun _ f60=>?_;refine R.t 9 f60 rfl s (fun W hW=>(E.load f60 U3 rfl rfl ((A1.kept (HK.z hW)).row hA hd 1 _ rfl))) fun _ f60=>?_;refine R.cl 10 f60 rfl (rc2 f60 Tryz.call37) (pair_any _ _ _) ?_;rintro e w2x ⟨rfl,rfl⟩
  refine ⟨_,rfl,s,fun _ f60=>?_⟩;refine R.p 11 f60 rfl s (E.not f60 rfl) fun _ f60=>?_;refine R.mv 12 f60 rfl s fun _ f60=>?_;refine f60.splitNB 22 rfl (fun h1 f60=>?_) (fun h1 f60=>?_)
  ·refine R.ts 13 f60 rfl s f60.nF fun _ f61=>?_;refine R.ts 14 f61 rfl s f61.nF fun _ f61=>?_;refine R.ts 15 f61 rfl s f61.nF fun _ f61=>?_;refine R.ts 16 f61 rfl s f61.nF fun _ f61=>?_;refine R.ts 17 f61 rfl s f61.nF fun _ f61=>?_;refine R.ts 18 f61 rfl s f61.nF fun _ f61=>?_;refine R.p 19 f61 rfl s (E.pickT f61 rfl rfl) fun _ f61=>?_;refine R.mv 20 f61 rfl s fun _ f61=>?_;refine R.ts 21 f61 rfl s f61.nF fun _ f61=>?_;refine R.ts 22 f61 rfl s f61.nF fun _ f61=>?_;refine R.ts 23 f61 rfl s f61.nF fun _ f61=>?_;refine R.ts 24 f61 rfl s f61.nU fun _ f61=>?_;refine R.ts 25 f61 rfl s f61.nU fun _ f61=>?_;refine R.ts 26 f61 rfl s f61.nU fun _ f61=>?_;refine R.ts 27 f61 rfl s f61.nU fun _ f61=>?_;refine R.ts 28 f61 rfl s f61.nU fun _ f61=>?_;refine R.ts 29 f61 rfl s f61.nU fun _ f61=>?_;refine R.ts 30 f61 rfl s f61.nU fun _ f61=>?_;refine R.ts 31 f61 rfl s f61.nU fun _ f61=>?_;refine R.ts 32 f61 rfl s f61.nU fun _ f61=>?_;refine R.ts 33 f61 rfl s f61.nU fun _ f61=>?_;refine R.ts 34 f61 rfl s f61.nU fun _ f61=>?_;refine R.ts 35 f61 rfl s f61.nF fun _ f61=>?_;refine R.p 36 f61 rfl s (E.pickT f61 rfl rfl) fun _ f61=>?_;have szw2r:=s.size;replace HK:=HK.z s;clear s;refine R.done (by kernel_rfl) (k3 _ _ ?_);have f61:=f61.pk [0,3,4,5,6,7,10,11,12,13,14,15,16,17,18,19,20,21,22,23,24,25,26,27,28,29,30,31,32,33,34,35,36,37,38,39,40,41,42,43,44,45,46];refine C.condT f61 rfl ?_
   refine C.sk fun _ k4=>?_;refine L.ag f61 fun _ f61=>?_;have f61:=f61.pk [0,2,3,4,5,6,7,10,11,12,13,14,15,16,17,18,19,20,21,22,23,24,25,26,27,28,29,30,31,32,33,34,35,36,37,38,39,40,41,42,43,44,45,46];refine wn k4 (wp_ret ?_); (try simp only [xt,xb]); refine C.ret f61 rfl rfl ?_;exact ⟨HK,by unfold rightB; rw [hr,hst,mayB_pair]; simp [*] <;> (intros; omega)⟩
  refine R.mv 13 f60 rfl s (hw:=f60.y) fun _ f60=>?_;refine R.mv 14 f60 rfl s (hw:=f60.y) fun _ f60=>?_;refine R.p 15 f60 rfl s (E.indexA f60 (by assumption) U32 Z3 rfl rfl (by omega) (by omega)) (hw:=f60.y) fun _ f60=>?_;refine R.p 16 f60 rfl s (E.fa 2 f60 U46 rfl Z0) (hw:=f60.y) fun _ f60=>?_;refine R.t 17 f60 rfl s (fun W hW=>(E.load f60 U3 rfl rfl ((A1.kept (HK.z hW)).row hA hd 2 _ rfl))) (hw:=f60.y) fun _ f60=>?_;refine R.p 18 f60 rfl s (E.lss f60 rfl rfl) (hw:=f60.y) fun _ f60=>?_;refine R.p 19 f60 rfl s (E.pickF f60 rfl rfl) fun _ f60=>?_;refine R.mv 20 f60 rfl s fun _ f60=>?_;refine f60.splitD 30 rfl (fun h2 f60=>?_) (fun h2 f60=>?_)
  ·refine R.ts 21 f60 rfl s f60.nF fun _ f61=>?_;refine R.ts 22 f61 rfl s f61.nF fun _ f61=>?_;refine R.ts 23 f61 rfl s f61.nF fun _ f61=>?_;refine R.ts 24 f61 rfl s f61.nU fun _ f61=>?_;refine R.ts 25 f61 rfl s f61.nU fun _ f61=>?_;refine R.ts 26 f61 rfl s f61.nU fun _ f61=>?_;refine R.ts 27 f61 rfl s f61.nU fun _ f61=>?_;refine R.ts 28 f61 rfl s f61.nU fun _ f61=>?_;refine R.ts 29 f61 rfl s f61.nU fun _ f61=>?_;refine R.ts 30 f61 rfl s f61.nU fun _ f61=>?_;refine R.ts 31 f61 rfl s f61.nU fun _ f61=>?_;refine R.ts 32 f61 rfl s f61.nU fun _ f61=>?_;refine R.ts 33 f61 rfl s f61.nU fun _ f61=>?_;refine R.ts 34 f61 rfl s f61.nU fun _ f61=>?_;refine R.ts 35 f61 rfl s f61.nF fun _ f61=>?_;refine R.p 36 f61 rfl s (E.pickT f61 rfl rfl) fun _ f61=>?_;have szw2r:=s.size;replace HK:=HK.z s;clear s;refine R.done (by kernel_rfl) (k3 _ _ ?_);have f61:=f61.pk [0,3,4,5,6,7,10,11,12,13,14,15,16,17,18,19,20,21,22,23,24,25,26,27,28,29,30,31,32,33,34,35,36,37,38,39,40,41,42,43,44,45,46];refine C.condT f61 rfl ?_;refine C.sk fun _ k4=>?_;refine L.ag f61 fun _ f61=>?_;have f61:=f61.pk [0,2,3,4,5,6,7,10,11,12,13,14,15,16,17,18,19,20,21,22,23,24,25,26,27,28,29,30,31,32,33,34,35,36,37,38,39,40,41,42,43,44,45,46];refine wn k4 (wp_ret ?_); (try simp only [xt,xb]); refine C.ret f61 rfl rfl ?_;exact ⟨HK,by unfold rightB; rw [hr,hst,mayB_pair]; simp [*] <;> (intros; omega)⟩
  refine R.mv 21 f60 rfl s (hw:=f60.y) fun _ f60=>?_;refine R.p 22 f60 rfl s (E.gtr f60 rfl rfl) (hw:=f60.y) fun _ f60=>?_;refine R.mv 23 f60 rfl s (hw:=f60.y) fun _ f60=>?_;refine f60.splitD 33 rfl (fun h3 f60=>?_) (fun h3 f60=>?_)
  ·obtain ⟨q,hq⟩ : ∃ q,l[Int.toNat ((k : Int) - 1)]? = some q:=⟨l[Int.toNat ((k : Int) - 1)]'(by omega),List.getElem?_eq_getElem _⟩;rw [prev_some2 d (by omega) hq] at hst;refine R.mv 24 f60 rfl s (hw:=f60.y) fun _ f61=>?_;refine R.mv 25 f61 rfl s (hw:=f61.y) fun _ f61=>?_;refine R.p 26 f61 rfl s (E.sub f61 rfl rfl (IntWalk.i64_in _ (by omega))) (hw:=f61.y) fun _ f61=>?_;refine R.p 27 f61 rfl s (E.indexA f61 (by assumption) U32 Z3 rfl rfl (by omega) (by omega)) (hw:=f61.y) fun _ f61=>?_;refine R.t 28 f61 rfl s (fun W hW=>(E.loadR f61 U46 rfl Z3 rfl ((A1.kept (HK.z hW)).row hA hq) rfl)) (hw:=f61.y) fun _ f61=>?_;refine R.mv 29 f61 rfl s (hw:=f61.y) fun _ f61=>?_;refine R.mv 30 f61 rfl s (hw:=f61.y) fun _ f61=>?_;refine R.p 31 f61 rfl s (E.indexA f61 (by assumption) U32 Z3 rfl rfl (by omega) (by omega)) (hw:=f61.y) fun _ f61=>?_;refine R.t 32 f61 rfl s (fun W hW=>(E.loadR f61 U46 rfl Z3 rfl ((A1.kept (HK.z hW)).row hA hd) rfl)) (hw:=f61.y) fun _ f61=>?_;refine R.call 33 f61 rfl rfl (by decide) (by kernel_rfl) f61.y (rc2 f61 Tryz.call78) (ahead_any _ _ _) ?_;rintro e w3 ⟨q1,rfl⟩;replace s:=s.trans q1 (by simp);refine ⟨_,rfl,s,fun _ f61=>?_⟩;have szw3:=q1.size;clear q1;refine R.p 34 f61 rfl s (E.not f61 rfl) (hw:=f61.y) fun _ f61=>?_;refine R.p 35 f61 rfl s (E.pickT f61 rfl rfl) (hw:=f61.y) fun _ f61=>?_;refine R.p 36 f61 rfl s (E.pickF f61 rfl rfl) fun _ f61=>?_;have szw3r:=s.size;replace HK:=HK.z s;clear s
   refine R.done (by kernel_rfl) (k3 _ _ ?_);have f61:=f61.pk [0,3,4,5,6,7,10,11,12,13,14,15,16,17,18,19,20,21,22,23,24,25,26,27,28,29,30,31,32,33,34,35,36,37,38,39,40,41,42,43,44,45,46];refine f61.splitN 46 rfl (fun h4 f61=>?_) (fun h4 f61=>?_)
   ·refine C.condT f61 rfl ?_;refine C.sk fun _ k4=>?_;refine L.ag f61 fun _ f62=>?_;have f62:=f62.pk [0,2,3,4,5,6,7,10,11,12,13,14,15,16,17,18,19,20,21,22,23,24,25,26,27,28,29,30,31,32,33,34,35,36,37,38,39,40,41,42,43,44,45,46];refine wn k4 (wp_ret ?_); (try simp only [xt,xb]); refine C.ret f62 rfl rfl ?_;exact ⟨HK,by unfold rightB; rw [hr,hst,mayB_pair]; simp [*] <;> (intros; omega)⟩
   refine C.condF f61 rfl ?_;refine wp_skip (k2 _ _ ?_);have f61:=f61.pk [0,3,4,5,6,7,10,11,12,13,14,15,16,17,18,19,20,21,22,23,24,25,26,27,28,29,30,31,32,33,34,35,36,37,38,39,40,41,42,43,44,45,46];refine C.region ?_;refine L.mv f61 fun _ f61=>?_;refine L.va f61 (E.add f61 rfl rfl (IntWalk.i64_in _ (by omega))) fun _ f61=>?_;refine L.ag f61 fun _ f61=>?_;refine wpList_nil (hKL3 _ _ (gk4 - 1) ?_ ?_)
   ·omega
   exact ⟨k + 1,by omega,HK,by rw [hr,hst,mayB_pair]; simp [*] <;> (intros; omega),f61.sub (sx (sx sn))⟩
  rw [prev_none d (by omega)] at hst;refine R.ts 24 f60 rfl s f60.nT fun _ f60=>?_;refine R.ts 25 f60 rfl s f60.nT fun _ f60=>?_;refine R.ts 26 f60 rfl s f60.nT fun _ f60=>?_;refine R.ts 27 f60 rfl s f60.nT fun _ f60=>?_;refine R.ts 28 f60 rfl s f60.nT fun _ f60=>?_;refine R.ts 29 f60 rfl s f60.nT fun _ f60=>?_;refine R.ts 30 f60 rfl s f60.nT fun _ f60=>?_;refine R.ts 31 f60 rfl s f60.nT fun _ f60=>?_;refine R.ts 32 f60 rfl s f60.nT fun _ f60=>?_;refine R.ts 33 f60 rfl s f60.nT fun _ f60=>?_;refine R.ts 34 f60 rfl s f60.nT fun _ f60=>?_;refine R.p 35 f60 rfl s (E.pickF f60 rfl rfl) (hw:=f60.y) fun _ f60=>?_;refine R.p 36 f60 rfl s (E.pickF f60 rfl rfl) fun _ f60=>?_;have szw2r:=s.size;replace HK:=HK.z s;clear s;refine R.done (by kernel_rfl) (k3 _ _ ?_);have f60:=f60.pk [0,3,4,5,6,7,10,11,12,13,14,15,16,17,18,19,20,21,22,23,24,25,26,27,28,29,30,31,32,33,34,35,36,37,38,39,40,41,42,43,44,45,46];refine C.condF f60 rfl ?_;refine wp_skip (k2 _ _ ?_);have f60:=f60.pk [0,3,4,5,6,7,10,11,12,13,14,15,16,17,18,19,20,21,22,23,24,25,26,27,28,29,30,31,32,33,34,35,36,37,38,39,40,41,42,43,44,45,46];refine C.region ?_;refine L.mv f60 fun _ f60=>?_;refine L.va f60 (E.add f60 rfl rfl (IntWalk.i64_in _ (by omega))) fun _ f60=>?_;refine L.ag f60 fun _ f60=>?_;refine wpList_nil (hKL3 _ _ (gk4 - 1) ?_ ?_)
  ·omega
  exact ⟨k + 1,by omega,HK,by rw [hr,hst,mayB_pair]; simp [*] <;> (intros; omega),f60.sub (sx (sx sn))⟩
 refine C.condF f rfl ?_;refine wp_exit (k1 _ _ ?_);have f:=f.sub sn;refine C.sk fun _ k1=>?_;refine L.ag f fun _ f=>?_;have f:=f.pk [2];refine wn k1 (wp_ret ?_); (try simp only [xt,xb]); refine C.ret f rfl rfl ?_;exact ⟨HK,by unfold rightB; rw [hr,List.drop_eq_nil_of_le (by omega)]; rfl⟩
theorem TopR_any (l : List Dt) (A : Option Addr) (c : Nat) (x y : Int) (w : World) (A1 : Ds w A l) (hm : l.length ≤ 1000000) : Calls Tryz.prog 76 #[.slice A l.length c,.int .i64 x,.int .i64 y] w (fun e w'=>Kept [] w w' ∧ e = .returned (.int .i64 (topR l x y))):=by
 have HK : Kept [] w w:=Kept.refl [] w;refine C.enter Tryz.func76 rfl Tryz.ntmps76 rfl ?_;intro a1 f;have f : Fr 38 a1 [(0,.slice A l.length c),(1,.int .i64 x),(2,.int .i64 y)]:=f;refine C.sk fun _ k1=>?_;refine L.ag f fun _ f=>?_;refine wn k1 ?_;have f:=f.pk [0,1,2,6];refine wp_seq_k fun _ k1=>C.sk fun _ k2=>?_;refine L.mv f fun _ f=>?_;refine L.cl f (rc1 f Tryz.call77) (rightR_any l _ _ _ (A1.kept HK) (by unfold maxLen; omega)) ?_;rintro e w1 ⟨q,rfl⟩;refine ⟨_,rfl,fun _ f=>?_⟩;have szw1:=q.size;replace HK:=HK.z q;clear q;refine L.va f (E.not f rfl) fun _ f=>?_;refine wn k2 ?_;have f:=f.pk [0,1,2,6,10];refine f.splitNB 10 rfl (fun h0 f=>?_) (fun h0 f=>?_)
 ·refine C.condT f rfl ?_;refine C.sk fun _ k2=>?_;refine L.ag f fun _ f46=>?_;have f46:=f46.pk [0,1,2,6];refine wn k2 (wp_ret ?_); (try simp only [xt,xb]); refine C.ret f46 rfl rfl ?_;exact ⟨HK,by simp [topR, *]⟩
 have hrb:=h0;refine C.condF f rfl ?_;refine wp_skip (k1 _ _ ?_);have f:=f.pk [0,1,2,6];refine wp_seq_k fun _ k1=>C.sk fun _ k2=>?_;refine L.ag f fun _ f=>?_;refine wn k2 ?_;have f:=f.pk [0,1,2,6,7];refine wp_block ?_;refine C.loop (fun gk a W=>∃ k : Nat,k + gk = l.length ∧ Kept [] w W ∧ (∀ a ∈ l.take k,¬ (a.node = x ∧ a.epoch = y)) ∧ Fr 38 a [(0,.slice A l.length c),(1,.int .i64 x),(2,.int .i64 y),(7,.int .i64 k)]) (l.length) ?_ ?_
 ·exact ⟨0,by omega,HK,by simp,f.sub (sx (sx (sx (sx sn))))⟩
 intro gk7 _ w2 hI KL6 hKL6;obtain ⟨k,hk,HK,hq,f46⟩:=hI
 try clear f
 refine wp_seq_k fun _ k2=>C.sk fun _ k3=>?_;refine L.mv f46 fun _ f=>?_;refine L.mv f fun _ f=>?_;refine L.va f (E.lenL f U32 rfl) fun _ f=>?_;refine L.va f (E.lss f rfl rfl) fun _ f=>?_;refine wn k3 ?_;have f:=f.pk [0,1,2,7,11,12,13,14];refine f.splitD 14 rfl (fun h1 f=>?_) (fun h1 f=>?_)
 ·obtain ⟨d,hd⟩ : ∃ d,l[k]? = some d:=⟨l[k]'(by omega),List.getElem?_eq_getElem _⟩;obtain ⟨bk,off,hA⟩:=A1.addr (i:=k) (by omega);refine C.condT f rfl ?_;refine wp_skip (k2 _ _ ?_);have f46:=f.pk [0,1,2,7,11,12,13,14];refine wp_seq_k fun _ k2=>?_;refine wp_block ?_;refine C.sk fun _ k3=>?_;refine L.mv f46 fun _ f46=>?_;refine L.mv f46 fun _ f46=>?_;refine L.va f46 (E.indexA f46 (by assumption) U32 Z3 rfl rfl (by omega) (by omega)) fun _ f46=>?_;refine L.fa 0 f46 U46 rfl Z0 fun _ f46=>?_;refine L.va f46 (E.load f46 U3 rfl rfl ((A1.kept HK).row hA hd 0 _ rfl)) fun _ f46=>?_;refine L.mv f46 fun _ f46=>?_;refine L.va f46 (E.eql f46 rfl rfl) fun _ f46=>?_;refine L.mv f46 fun _ f46=>?_;refine f46.splitD 24 rfl (fun h2 f46=>?_) (fun h2 f46=>?_)
  ·have hx1:=h2;refine L.mv f46 (hw:=f46.y) fun _ f47=>?_;refine L.mv f47 (hw:=f47.y) fun _ f47=>?_;refine L.va f47 (E.indexA f47 (by assumption) U32 Z3 rfl rfl (by omega) (by omega)) (hw:=f47.y) fun _ f47=>?_;refine L.fa 1 f47 U46 rfl Z0 (hw:=f47.y) fun _ f47=>?_;refine L.va f47 (E.load f47 U3 rfl rfl ((A1.kept HK).row hA hd 1 _ rfl)) (hw:=f47.y) fun _ f47=>?_;refine L.mv f47 (hw:=f47.y) fun _ f47=>?_;refine L.va f47 (E.eql f47 rfl rfl) (hw:=f47.y) fun _ f47=>?_;refine L.va f47 (E.pickT f47 rfl rfl) fun _ f47=>?_;refine wn k3 ?_;have f47:=f47.pk [0,1,2,7,11,12,13,14,17,18,19,20,21,22,23,24,25,26,27,28,29,30,31,32];refine f47.splitD 32 rfl (fun h3 f47=>?_) (fun h3 f47=>?_)
   ·have hy1:=h3;refine C.condT f47 rfl ?_;refine C.sk fun _ k4=>?_;refine L.mv f47 fun _ f48=>?_;refine L.mv f48 fun _ f48=>?_;refine L.va f48 (E.indexA f48 (by assumption) U32 Z3 rfl rfl (by omega) (by omega)) fun _ f48=>?_;refine L.fa 2 f48 U46 rfl Z0 fun _ f48=>?_;refine L.va f48 (E.load f48 U3 rfl rfl ((A1.kept HK).row hA hd 2 _ rfl)) fun _ f48=>?_;refine L.ag f48 fun _ f48=>?_;have f48:=f48.pk [0,1,2,6,7,11,12,13,14,17,18,19,20,21,22,23,24,25,26,27,28,29,30,31,32,33,34,35,36,37];refine wn k4 (wp_ret ?_); (try simp only [xt,xb]); refine C.ret f48 rfl rfl ?_;exact ⟨HK,by rw [topR,if_pos hrb,topI_at hrb hd hx1 hy1]⟩
   have hn1 : ¬ (d.node = x ∧ d.epoch = y):=fun h=>h3 h.2;refine C.condF f47 rfl ?_;refine wp_skip (k2 _ _ ?_);have f47:=f47.pk [0,1,2,7,11,12,13,14,17,18,19,20,21,22,23,24,25,26,27,28,29,30,31,32];refine C.region ?_;refine L.mv f47 fun _ f47=>?_;refine L.va f47 (E.add f47 rfl rfl (IntWalk.i64_in _ (by omega))) fun _ f47=>?_;refine L.ag f47 fun _ f47=>?_;refine wpList_nil (hKL6 _ _ (gk7 - 1) ?_ ?_)
   ·omega
   exact ⟨k + 1,by omega,HK,in_take hq hd hn1,f47.sub (sx (sx (sx (sx sn))))⟩
  have hn1 : ¬ (d.node = x ∧ d.epoch = y):=fun h=>h2 h.1;refine L.run f46 (rest':=[]) (by kernel_rfl) fun _ f46=>?_;refine wn k3 ?_;have f46:=f46.sub (sv 32 (.bool false) (pkR f46 [0,1,2,7,11,12,13,14,17,18,19,20,21,22,23,24]));refine C.condF f46 rfl ?_;refine wp_skip (k2 _ _ ?_);have f46:=f46.pk [0,1,2,7,11,12,13,14,17,18,19,20,21,22,23,24,32];refine C.region ?_;refine L.mv f46 fun _ f46=>?_;refine L.va f46 (E.add f46 rfl rfl (IntWalk.i64_in _ (by omega))) fun _ f46=>?_;refine L.ag f46 fun _ f46=>?_;refine wpList_nil (hKL6 _ _ (gk7 - 1) ?_ ?_)
  ·omega
  exact ⟨k + 1,by omega,HK,in_take hq hd hn1,f46.sub (sx (sx (sx (sx sn))))⟩
 refine C.condF f rfl ?_;refine wp_exit (k1 _ _ ?_);have f:=f.sub sn;refine C.sk fun _ k1=>?_;refine L.ag f fun _ f=>?_;have f:=f.pk [6];refine wn k1 (wp_ret ?_); (try simp only [xt,xb]); refine C.ret f rfl rfl ?_;exact ⟨HK,by rw [topR,if_pos hrb,topI_none (all_take hq (by omega))]⟩
theorem HasR_any (l : List Dt) (A : Option Addr) (c : Nat) (d : Dt) (w : World) (A1 : Ds w A l) (hm : l.length ≤ 1000000) : Calls Tryz.prog 50 #[.slice A l.length c,.agg (dcell d).toArray] w (fun e w'=>Kept [] w w' ∧ e = .returned (.bool (hasB l d))):=by
 have HK : Kept [] w w:=Kept.refl [] w;refine C.enter Tryz.func50 rfl Tryz.ntmps50 rfl ?_;intro a f;have f : Fr 19 a [(0,.slice A l.length c),(1,.agg (dcell d).toArray)]:=f;refine C.sk fun _ k=>?_;refine L.box f wantedN (by decide) rfl rfl fun _ w1 g0 N f=>?_;obtain ⟨Bg0,q,log0,ltg0,szw1⟩:=N.al;have frg0:=HK.lo log0;replace HK:=HK.z q;clear N q;refine L.ag f fun _ f=>?_;refine wn k ?_;have f:=f.pk [0,3,4];refine wp_seq_k fun _ k=>?_;refine R.begin (S:=fun W=>Kept [] w1 W) (by kernel_rfl) (by exact (Kept.refl _ _).drewN 1) ?_;have s : Kept [] w1 (w1.drewN 1):=(Kept.refl _ _).drewN 1;have hd1 : Kept [] w1 (w1.drewN 1):=(Kept.refl _ _).drewN 1;obtain ⟨w2,hww2⟩ : ∃ W,W = w1.drewN 1:=⟨_,rfl⟩;rw [← hww2] at s hd1 ⊢;clear hww2;have szw2:=s.size;refine R.p 0 f rfl s (E.fa 2 f U46 rfl Z0) fun _ f=>?_;refine R.t 1 f rfl s (fun W hW=>(E.load f U3 rfl rfl ((Bg0.z hW).cl rfl))) fun _ f=>?_;refine R.p 2 f rfl s (E.geq f rfl rfl) fun _ f=>?_;refine R.mv 3 f rfl s fun _ f=>?_;refine f.splitD 8 rfl (fun h0 f=>?_) (fun h0 f=>?_)
 ·refine R.p 4 f rfl s (E.fa 2 f U46 rfl Z0) (hw:=f.y) fun _ f22=>?_;refine R.t 5 f22 rfl s (fun W hW=>(E.load f22 U3 rfl rfl ((Bg0.z hW).cl rfl))) (hw:=f22.y) fun _ f22=>?_;refine R.mv 6 f22 rfl s (hw:=f22.y) fun _ f22=>?_;refine R.p 7 f22 rfl s (E.fa 0 f22 U46 rfl Z0) (hw:=f22.y) fun _ f22=>?_;refine R.t 8 f22 rfl s (fun W hW=>(E.load f22 U3 rfl rfl ((Bg0.z hW).cl rfl))) (hw:=f22.y) fun _ f22=>?_;refine R.p 9 f22 rfl s (E.fa 1 f22 U46 rfl Z0) (hw:=f22.y) fun _ f22=>?_;refine R.t 10 f22 rfl s (fun W hW=>(E.load f22 U3 rfl rfl ((Bg0.z hW).cl rfl))) (hw:=f22.y) fun _ f22=>?_;refine R.call 11 f22 rfl rfl (by decide) (by kernel_rfl) f22.y (rc3 f22 Tryz.call76) (TopR_any l _ _ _ _ _ ((A1.kept HK).kept s) hm) ?_;rintro e w3 ⟨q,rfl⟩;replace s:=s.trans q (by simp);refine ⟨_,rfl,s,fun _ f22=>?_⟩;have szw3:=q.size;clear q;refine R.p 12 f22 rfl s (E.leq f22 rfl rfl) (hw:=f22.y) fun _ f22=>?_;refine R.p 13 f22 rfl s (E.pickT f22 rfl rfl) fun _ f22=>?_;refine R.p 14 f22 rfl s (E.assign f22 rfl) fun _ f22=>?_;have szw3r:=s.size;replace HK:=HK.z s;replace Bg0:=Bg0.z s;clear s;refine R.done (by kernel_rfl) (k _ _ ?_);have f22:=f22.pk [4];refine wp_ret ?_; (try simp only [xt,xb]); refine C.ret f22 rfl rfl ?_;exact ⟨HK,by simp [hasB, *]⟩
 refine R.ts 4 f rfl s f.nT fun _ f=>?_;refine R.ts 5 f rfl s f.nT fun _ f=>?_;refine R.ts 6 f rfl s f.nT fun _ f=>?_;refine R.ts 7 f rfl s f.nT fun _ f=>?_;refine R.ts 8 f rfl s f.nT fun _ f=>?_;refine R.ts 9 f rfl s f.nT fun _ f=>?_;refine R.ts 10 f rfl s f.nT fun _ f=>?_;refine R.ts 11 f rfl s f.nT fun _ f=>?_;refine R.ts 12 f rfl s f.nT fun _ f=>?_;refine R.p 13 f rfl s (E.pickF f rfl rfl) fun _ f=>?_;refine R.p 14 f rfl s (E.assign f rfl) fun _ f=>?_;have szw2r:=s.size;replace HK:=HK.z s;replace Bg0:=Bg0.z s;clear s;refine R.done (by kernel_rfl) (k _ _ ?_);have f:=f.pk [4];refine wp_ret ?_; (try simp only [xt,xb]); refine C.ret f rfl rfl ?_;exact ⟨HK,by simp [hasB, *]⟩
end Go.Proofs.YtekmhcdgmgbheaaGreatDoor
