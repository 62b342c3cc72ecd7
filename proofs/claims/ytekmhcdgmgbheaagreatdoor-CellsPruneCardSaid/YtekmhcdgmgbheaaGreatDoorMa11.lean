/- Merged by program (shrink.py): contracts and plain laws that the claim's statement uses, part 11. -/
import Derived.Test.YtekmhcdgmgbheaaGreatDoorMa10
set_option linter.all false
set_option maxRecDepth 100000
set_option maxHeartbeats 8000000

set_option maxRecDepth 100000
namespace Go.Proofs.YtekmhcdgmgbheaaGreatDoor
open Go.RowKit Go.Hub Go.Lib Go.Shelf Go.ChangeShapes Go.WideShapes Go.Deep
def laidU : List (String × DataW Unit) := [("unicode/utf8.acceptRanges", Rows.laid_unicode_utf8_acceptRanges), ("unicode/utf8.first", Rows.laid_unicode_utf8_first)]
def tabRen : Ren:=⟨fun n=>n,fun | 119=>145 | 138=>147 | 139=>148 | n=>n,fun | 3=>0 | 4=>1 | n=>n⟩
theorem tabTypes : U8Types Tryz.prog tabRen:={ t5:=by kernel_rfl,t119:=by kernel_rfl,t138:=by kernel_rfl,t139:=by kernel_rfl }
theorem tabExtra : U8Extra Tryz.prog tabRen:={ n3:=by kernel_rfl,n4:=by kernel_rfl,y3:=by kernel_rfl,y4:=by kernel_rfl,c5:=by kernel_rfl,c119:=by kernel_rfl,c138:=by kernel_rfl }
theorem first_eq : Rows.laid_unicode_utf8_first = firstData:=by kernel_rfl
theorem accept_eq : (Rows.laid_unicode_utf8_acceptRanges : DataW Unit) = acceptData:=by kernel_rfl
theorem tabs_of {w : World} (h : laidMet Tryz.prog laidU w) : Tabs w:=by
  have h1 := laidMet.reads h (n := "unicode/utf8.first") (d := Rows.laid_unicode_utf8_first) (by simp [laidU]);have h2 := laidMet.reads h (n := "unicode/utf8.acceptRanges") (d := Rows.laid_unicode_utf8_acceptRanges) (by simp [laidU]);rw [first_eq] at h1;rw [accept_eq] at h2;exact utf8Tabs_of_readsT tabTypes tabExtra h1 h2
theorem laid_filter : (laidU.filter fun x=>x.2.handleName?.isSome) = []:=by kernel_rfl
theorem met_of {w : World} (h : laidMetH Tryz.prog laidU w) : laidMet Tryz.prog laidU w:=by
  unfold laidMetH at h;rw [laid_filter] at h;exact h
def layIn (cs : List Value) : Obj → Obj
  | .cells _ t frozen=>.cells cs.toArray t frozen
  | o=>o
def firstCells : List Value:=(List.range 256).map fun c=>Value.int .u8 (firstT c : Int)
def acceptCells : List Value:=(List.range 32).map fun c=>Value.int .u8 (if c % 2 = 0 then (accLo (c / 2) : Int) else (accHi (c / 2) : Int))
noncomputable def laidWorld (os : Os) : World:=
  { World.holding Tryz.prog os ⟨#[],#[],[]⟩ with heap:=((World.holding Tryz.prog os ⟨#[],#[],[]⟩).heap.modify 0 (layIn firstCells)).modify 1 (layIn acceptCells) }
theorem glob_of {w : World} (h : laidMet Tryz.prog laidU w) (hsh : w.ShapedOpen Tryz.prog) : Glob w:=by
  obtain ⟨s0,hs⟩:=cell_of_shapedOpen_int (P:=Tryz.prog) (g:=2) (t:=3) (zero:=#[.int .i64 0]) hsh (of_decide_eq_true (by kernel_rfl)) (by kernel_rfl) rfl (by kernel_rfl) (by kernel_rfl) U3;exact ⟨tabs_of h,s0,hs⟩
section
variable {H : Type} {enc : TypeId × Value → H} {w : World} {spare : Nat → Bool} {held : Bool}
theorem bd8 {k : Int} (h : (Lit.int .u8 k).wf = true) : 0 ≤ k ∧ k < 256:=by have:=bd_u8 h; omega
end
theorem end_of {e : Ending} {w w' : World} (h : Kept [] w w' ∧ e = .returned (.bool true)) : e = .returned (.bool true) ∧ Below w.heap.size w w':=⟨h.2,h.1.below0⟩
section
variable {H : Type} {enc : TypeId × Value → H} {w : World} {spare : Nat → Bool} {held : Bool}
def DeOk (w : World) (d : De) : Prop:=((0 ≤ d.what ∧ d.what < 256) ∧ (0 ≤ d.who ∧ d.who < 256) ∧ (0 ≤ d.k ∧ d.k < 256)) ∧ PayS w ⟨dum d.x,d.A,d.c⟩
theorem trod_u8 {n : Nat} {v : Value} {y : DataW H × List MemPlace} (h : DataW.trod enc Tryz.prog w 0 spare held n 5 [v] = some y) : ∃ q : Int,v = .int .u8 q ∧ 0 ≤ q ∧ q < 256:=by
  obtain ⟨q,e1,_,hw⟩:=DataW.trod_int U5 h;simp at e1;have:=bd8 hw;exact ⟨q,e1,by omega⟩
theorem open_deed (n : Nat) (cs : List Value) (y : DataW H × List MemPlace) (h : DataW.trod enc Tryz.prog w 0 spare held n 60 cs = some y) : ∃ x : De,cs = decell x ∧ DeOk w x:=by
  obtain ⟨ys,n',_,_,hcl,hyl,hf⟩:=DataW.trod_struct U60 h;have hcells : Tryz.prog.cellsOf 60 = 4:=by kernel_rfl
  rw [hcells] at hcl
  match cs,hcl with
  | [v0,v1,v2,v3],_=>
    have k5 : Tryz.prog.cellsOf 5 = 1:=by kernel_rfl
    have ku : Tryz.prog.cellsOf 25 = 1:=by kernel_rfl
    have l4 : ys.length = 4:=hyl;have f0 : DataW.trod enc Tryz.prog w 0 spare held n' 5 [v0] = ys[0]?:=by have:=hf 0 _ rfl; simpa [k5] using this
    have f1 : DataW.trod enc Tryz.prog w 0 spare held n' 5 [v1] = ys[1]?:=by have:=hf 1 _ rfl; simpa [k5] using this
    have f2 : DataW.trod enc Tryz.prog w 0 spare held n' 5 [v2] = ys[2]?:=by have:=hf 2 _ rfl; simpa [k5] using this
    have f3 : DataW.trod enc Tryz.prog w 0 spare held n' 25 [v3] = ys[3]?:=by have:=hf 3 _ rfl; simpa [ku] using this
    rw [List.getElem?_eq_getElem (by omega)] at f0 f1 f2 f3;obtain ⟨x0,e0,b0⟩:=trod_u8 f0;obtain ⟨x1,e1,b1⟩:=trod_u8 f1;obtain ⟨x2,e2,b2⟩:=trod_u8 f2;obtain ⟨A,c,x,ex,hl,_,hb⟩:=open_bytesC [5] U25 U5 (show Tryz.prog.cellsOf 5 = 1 by kernel_rfl) f3;simp at ex;exact ⟨⟨x0,x1,x2,x,A,c⟩,by rw [e0,e1,e2,ex],⟨⟨b0,b1,b2⟩,⟨Sl.of_rds hb.rds,hl⟩⟩⟩
theorem seqc {M : Type} {size : Nat} {cell : M → List Value} {R : M → Prop} : ∀ (ms : List M) (xs : List Value), Seq size (fun cs m => cs = cell m ∧ R m) xs ms → xs = ms.flatMap cell ∧ ∀ m ∈ ms, R m
  | [],xs,h=>by
    have:=h.1
    simp at this
    exact ⟨by simp [this],by simp⟩
  | m :: r,xs,h=>by
    have h0:=h.2 0 m rfl
    rw [Nat.zero_mul,List.drop_zero] at h0
    have h1:=h.drop 1
    rw [Nat.one_mul] at h1
    obtain ⟨i1,i2⟩:=seqc r _ h1
    refine ⟨?_,fun y hy=>?_⟩
    · rw [List.flatMap_cons,← h0.1,← i1,List.take_append_drop]
    rcases List.mem_cons.1 hy with rfl | hy
    · exact h0.2
    exact i2 y hy
def IsDeeds (w : World) (v : Value) : Prop:=∃ (l : List De) (A : Option Addr) (c : Nat),v = .slice A l.length c ∧ Sl w A l.length 4 (l.flatMap decell) ∧ ∀ d ∈ l,DeOk w d
theorem open_ds {r : Reach} {b0 : Nat} {v : Value} {d : DataW H} {p : List MemPlace} (hv : Value.okWide Tryz.prog w r b0 22 v) (h : DataW.Trod enc Tryz.prog w 0 spare held 22 v d p) : IsDeeds w v:=by
  obtain ⟨A,m,q,xs,l,rfl,hm,hq,hl,rd,s⟩:=open_seq (rel:=fun cs x=>cs = decell x ∧ DeOk w x) (show Tryz.prog.cellsOf 60 = 4 by kernel_rfl) (by omega) Tryz.underlying22 (okWide_slice Tryz.underlying22 hv) h open_deed;subst hl;obtain ⟨e,hall⟩:=seqc l xs s;rw [e] at rd;exact ⟨l,A,q,rfl,Sl.of_rds rd,hall⟩
end
theorem prune_row {v0 : Value} {b : Int} {w : World} (G : Glob w) (h0 : IsDeeds w v0) (w1 : (Lit.int .u8 b).wf = true) :
    Calls Tryz.prog 4 #[v0,.int .u8 b] w fun e w'=>e = .returned (.bool true) ∧ Below w.heap.size w w':=by
  obtain ⟨l,A,c,rfl,DL,hE⟩:=h0;exact (prune_walk l A c b w G DL hE (bd8 w1)).mono fun _ _=>end_of
end Go.Proofs.YtekmhcdgmgbheaaGreatDoor
