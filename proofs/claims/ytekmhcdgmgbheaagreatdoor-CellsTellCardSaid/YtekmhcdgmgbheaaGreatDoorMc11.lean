/- Merged by program (shrink.py): contracts and plain laws that the claim's statement uses, part 11. -/
import Derived.Test.YtekmhcdgmgbheaaGreatDoorMc10
set_option linter.all false
set_option maxRecDepth 100000
set_option maxHeartbeats 8000000

namespace Go.Hub
open Go.RowKit Go.ChangeShapes Go.WideShapes Go.Deep
section
variable {H : Type} {enc : TypeId × Value → H} {P : Program} {w : World} {spare : Nat → Bool} {held : Bool}
theorem spot0 {b off : Nat} {s : Option Nat} {v : Value} (h : w.cell? ⟨b,off,s⟩ = some v) : s = none:=World.cell?_spot h
theorem open_seq {M : Type} {t e size : Nat} {v : Value} {d : DataW H} {p : List MemPlace} {rel : List Value → M → Prop} (hsz : P.cellsOf e = size) (hpos : 0 < size) (ht : P.underlying t = some (.slice e))
    (hv : ∃ a len cap,v = .slice a len cap) (h : DataW.Trod enc P w 0 spare held t v d p) (hel : ∀ n cs y,DataW.trod enc P w 0 spare held n e cs = some y → ∃ m,rel cs m) :
    ∃ A len cap xs ms,v = .slice A len cap ∧ len ≤ cap ∧ cap ≤ maxLen ∧ ms.length = len ∧ Rds w w.heap.size size A len xs ∧ Seq size rel xs ms:=by
  obtain ⟨a,len,cap,rfl⟩:=hv;obtain ⟨fuel,hf⟩:=h
  rcases open_slice ht hf with ⟨hcs,_⟩ | ⟨a',len',cap',m,n,D,Pl,hcs,_,hl,hm,hmm,_,hi⟩
  · simp [Value.cells] at hcs
    obtain ⟨rfl,rfl,rfl⟩:=hcs;exact ⟨none,0,0,[],[],rfl,Nat.le_refl _,by simp [maxLen],rfl,Rds.nil _ _ _ _,Seq.nil _ _⟩
  · simp [Value.cells] at hcs
    obtain ⟨rfl,rfl,rfl⟩:=hcs;obtain ⟨b,off,s⟩:=a';have hlm : len ≤ m:=by rw [hmm]; split <;> omega
    have key : ∀ k,k ≤ len → ∃ xs ms,ms.length = k ∧ Seq size rel xs ms ∧ (0 < k → s = none ∧ b < w.heap.size ∧ ∀ j u,xs[j]? = some u → w.cell? ⟨b,off + j,none⟩ = some u):=by
      intro k
      induction k with
      | zero=>exact fun _=>⟨[],[],rfl,Seq.nil _ _,fun h=>absurd h (by omega)⟩
      | succ k ih=>
        intro hk;obtain ⟨xs,ms,h1,h2,h3⟩:=ih (by omega);obtain ⟨cs',hc,htr⟩:=hi k (by omega);rw [hsz] at hc;obtain ⟨_,hcl,hat⟩:=World.cells?_some hc;obtain ⟨mm,hmm'⟩:=hel _ _ _ htr
        have hs : s = none ∧ b < w.heap.size:=by
          rcases Nat.eq_zero_or_pos k with h0 | h0
          · subst h0
            have h00:=hat 0 hpos;have e0 : cs'[0]? = some (cs'[0]'(by omega)):=List.getElem?_eq_getElem (by omega);rw [e0,Nat.zero_mul] at h00;have h01 : w.cell? ⟨b,off,s⟩ = some (cs'[0]'(by omega)):=by simpa [Addr.add] using h00
            exact ⟨spot0 h01,World.block_lt_of_cell? w _ h01⟩
          · exact ⟨(h3 h0).1,(h3 h0).2.1⟩
        obtain ⟨rfl,hbw⟩:=hs;refine ⟨xs ++ cs',ms ++ [mm],by simp [h1],h2.append (Seq.one hcl hmm'),fun _=>⟨rfl,hbw,fun j u hu=>?_⟩⟩
        rcases Nat.lt_or_ge j xs.length with hj | hj
        · rw [List.getElem?_append_left hj] at hu
          have hk0 : 0 < k:=by
            rcases Nat.eq_zero_or_pos k with h0 | h0
            · have:=h2.1; rw [h1,h0] at this; omega
            · exact h0
          exact (h3 hk0).2.2 j u hu
        · rw [List.getElem?_append_right hj] at hu
          have hlt : j - xs.length < cs'.length:=by
            rcases Nat.lt_or_ge (j - xs.length) cs'.length with h | h
            · exact h
            · rw [List.getElem?_eq_none h] at hu; cases hu
          have:=hat (j - xs.length) (by omega);rw [hu,add_none,add_none] at this;have e1:=h2.1;rw [h1] at e1;rw [show off + k * size + (j - xs.length) = off + j from by omega] at this;exact this
    obtain ⟨xs,ms,h1,h2,h3⟩:=key len (Nat.le_refl _);refine ⟨_,len,cap,xs,ms,rfl,hl,hm,h1,⟨by rw [h2.1,h1],fun hp=>?_⟩,h2⟩;obtain ⟨rfl,hb,hc⟩:=h3 hp;exact ⟨b,off,rfl,hb,hc⟩
end
end Go.Hub
namespace Go.Hub
open Go.RowKit Go.ChangeShapes Go.WideShapes Go.Deep
section
variable {H : Type} {enc : TypeId × Value → H} {P : Program} {w : World} {spare : Nat → Bool} {held : Bool}
theorem open_bytesC {t e n : Nat} {cs : List Value} {y : DataW H × List MemPlace} (E : List TypeId) (ht : P.underlying t = some (.slice e)) (he : P.underlying e = some (.int .u8)) (hsz : P.cellsOf e = 1)
    (h : DataW.trod enc P w 0 spare held n t cs = some y) : ∃ A c l,cs = [.slice A l.length c] ∧ l.length ≤ c ∧ c ≤ maxLen ∧ Bs E w.heap.size w A l.length l:=by
  rcases open_ints ht he hsz h with ⟨rfl,_⟩ | ⟨a,len,cap,zs,rfl,_,hl,hm,hz,_,hc,hw⟩
  · exact ⟨none,0,[],rfl,Nat.le_refl _,by simp [maxLen],Bs.nil _ _ _ _⟩
  have hzl : len ≤ zs.length:=by rw [hz]; split <;> omega
  have hlen : ((zs.take len).map fun z=>UInt8.ofNat z.toNat).length = len:=by simp; omega
  refine ⟨some a,cap,(zs.take len).map fun z=>UInt8.ofNat z.toNat,by rw [hlen],by rw [hlen]; omega,by omega,?_⟩;rw [hlen];refine ⟨hlen,fun hp=>?_⟩;obtain ⟨b,off,s⟩:=a;have h0:=hc 0 (by omega);have h01 : w.cell? ⟨b,off,s⟩ = some (.int .u8 (zs.getD 0 0)):=by simpa [Addr.add] using h0
  obtain rfl:=spot0 h01;have hbw:=World.block_lt_of_cell? w _ h01;refine ⟨b,off,rfl,hbw,.inl hbw,fun j x hx=>?_⟩;simp only [List.getElem?_map,Option.map_eq_some_iff] at hx;obtain ⟨z,hz2,rfl⟩:=hx
  have hj : j < len:=by
    rcases Nat.lt_or_ge j len with h | h
    · exact h
    rw [List.getElem?_take,if_neg (by omega)] at hz2; cases hz2
  rw [List.getElem?_take,if_pos hj] at hz2;have:=hc j (by omega);rw [add_none] at this;rw [this];have hzw:=bd_u8 (hw z (List.mem_of_getElem? hz2));have e1 : zs.getD j 0 = z:=by simp [List.getD_eq_getElem?_getD,hz2]
  rw [e1];unfold u8;rw [UInt8.toNat_ofNat']
  congr 2
  omega
end
end Go.Hub
set_option maxRecDepth 100000
namespace Go.Proofs.YtekmhcdgmgbheaaGreatDoor
open Go.RowKit Go.Hub Go.Lib Go.Shelf Go.ChangeShapes Go.WideShapes Go.Deep
def laidU : List (String × DataW Unit) := [("unicode/utf8.acceptRanges", Rows.laid_unicode_utf8_acceptRanges), ("unicode/utf8.first", Rows.laid_unicode_utf8_first)]
def tabRen : Ren:=⟨fun n=>n,fun | 119=>145 | 138=>147 | 139=>148 | n=>n,fun | 3=>0 | 4=>1 | n=>n⟩
theorem tabTypes : U8Types Tryz.prog tabRen:={ t5:=by kernel_rfl,t119:=by kernel_rfl,t138:=by kernel_rfl,t139:=by kernel_rfl }
theorem tabExtra : U8Extra Tryz.prog tabRen:={ n3:=by kernel_rfl,n4:=by kernel_rfl,y3:=by kernel_rfl,y4:=by kernel_rfl,c5:=by kernel_rfl,c119:=by kernel_rfl,c138:=by kernel_rfl }
theorem first_eq : Rows.laid_unicode_utf8_first = firstData:=by kernel_rfl
theorem accept_eq : (Rows.laid_unicode_utf8_acceptRanges : DataW Unit) = acceptData:=by kernel_rfl
theorem tabs_of {w : World} (h : laidMet Tryz.prog laidU w) : Tabs w:=by
  have h1 := laidMet.reads h (n := "unicode/utf8.first") (d := Rows.laid_unicode_utf8_first) (by simp [laidU]);have h2 := laidMet.reads h (n := "unicode/utf8.acceptRanges") (d := Rows.laid_unicode_utf8_acceptRanges) (by simp [laidU]);rw [first_eq] at h1;rw [accept_eq] at h2;exact utf8Tabs_of_readsT tabTypes tabExtra h1 h2
theorem laid_filter : (laidU.filter fun x=>x.2.handleName?.isSome) = []:=by kernel_rfl
theorem met_of {w : World} (h : laidMetH Tryz.prog laidU w) : laidMet Tryz.prog laidU w:=by
  unfold laidMetH at h;rw [laid_filter] at h;exact h
def layIn (cs : List Value) : Obj → Obj
  | .cells _ t frozen=>.cells cs.toArray t frozen
  | o=>o
def firstCells : List Value:=(List.range 256).map fun c=>Value.int .u8 (firstT c : Int)
def acceptCells : List Value:=(List.range 32).map fun c=>Value.int .u8 (if c % 2 = 0 then (accLo (c / 2) : Int) else (accHi (c / 2) : Int))
noncomputable def laidWorld (os : Os) : World:=
  { World.holding Tryz.prog os ⟨#[],#[],[]⟩ with heap:=((World.holding Tryz.prog os ⟨#[],#[],[]⟩).heap.modify 0 (layIn firstCells)).modify 1 (layIn acceptCells) }
theorem glob_of {w : World} (h : laidMet Tryz.prog laidU w) (hsh : w.ShapedOpen Tryz.prog) : Glob w:=by
  obtain ⟨s0,hs⟩:=cell_of_shapedOpen_int (P:=Tryz.prog) (g:=2) (t:=3) (zero:=#[.int .i64 0]) hsh (of_decide_eq_true (by kernel_rfl)) (by kernel_rfl) rfl (by kernel_rfl) (by kernel_rfl) U3;exact ⟨tabs_of h,s0,hs⟩
section
variable {H : Type} {enc : TypeId × Value → H} {w : World} {spare : Nat → Bool} {held : Bool}
theorem bd8 {k : Int} (h : (Lit.int .u8 k).wf = true) : 0 ≤ k ∧ k < 256:=by have:=bd_u8 h; omega
theorem bd16 {k : Int} (h : (Lit.int .u16 k).wf = true) : 0 ≤ k ∧ k < 65536:=by
  have h : 0 ≤ k ∧ k ≤ 65535:=by simpa [Lit.wf,IntKind.min,IntKind.max,IntKind.signed,IntKind.bits] using h
  omega
end
theorem end_of {e : Ending} {w w' : World} (h : Kept [] w w' ∧ e = .returned (.bool true)) : e = .returned (.bool true) ∧ Below w.heap.size w w':=⟨h.2,h.1.below0⟩
section
variable {H : Type} {enc : TypeId × Value → H} {w : World} {spare : Nat → Bool} {held : Bool}
def DeOk (w : World) (d : De) : Prop:=((0 ≤ d.what ∧ d.what < 256) ∧ (0 ≤ d.who ∧ d.who < 256) ∧ (0 ≤ d.k ∧ d.k < 256)) ∧ PayS w ⟨dum d.x,d.A,d.c⟩
theorem trod_u8 {n : Nat} {v : Value} {y : DataW H × List MemPlace} (h : DataW.trod enc Tryz.prog w 0 spare held n 5 [v] = some y) : ∃ q : Int,v = .int .u8 q ∧ 0 ≤ q ∧ q < 256:=by
  obtain ⟨q,e1,_,hw⟩:=DataW.trod_int U5 h;simp at e1;have:=bd8 hw;exact ⟨q,e1,by omega⟩
theorem open_deed (n : Nat) (cs : List Value) (y : DataW H × List MemPlace) (h : DataW.trod enc Tryz.prog w 0 spare held n 60 cs = some y) : ∃ x : De,cs = decell x ∧ DeOk w x:=by
  obtain ⟨ys,n',_,_,hcl,hyl,hf⟩:=DataW.trod_struct U60 h;have hcells : Tryz.prog.cellsOf 60 = 4:=by kernel_rfl
  rw [hcells] at hcl
  match cs,hcl with
  | [v0,v1,v2,v3],_=>
    have k5 : Tryz.prog.cellsOf 5 = 1:=by kernel_rfl
    have ku : Tryz.prog.cellsOf 25 = 1:=by kernel_rfl
    have l4 : ys.length = 4:=hyl;have f0 : DataW.trod enc Tryz.prog w 0 spare held n' 5 [v0] = ys[0]?:=by have:=hf 0 _ rfl; simpa [k5] using this
    have f1 : DataW.trod enc Tryz.prog w 0 spare held n' 5 [v1] = ys[1]?:=by have:=hf 1 _ rfl; simpa [k5] using this
    have f2 : DataW.trod enc Tryz.prog w 0 spare held n' 5 [v2] = ys[2]?:=by have:=hf 2 _ rfl; simpa [k5] using this
    have f3 : DataW.trod enc Tryz.prog w 0 spare held n' 25 [v3] = ys[3]?:=by have:=hf 3 _ rfl; simpa [ku] using this
    rw [List.getElem?_eq_getElem (by omega)] at f0 f1 f2 f3;obtain ⟨x0,e0,b0⟩:=trod_u8 f0;obtain ⟨x1,e1,b1⟩:=trod_u8 f1;obtain ⟨x2,e2,b2⟩:=trod_u8 f2;obtain ⟨A,c,x,ex,hl,_,hb⟩:=open_bytesC [5] U25 U5 (show Tryz.prog.cellsOf 5 = 1 by kernel_rfl) f3;simp at ex;exact ⟨⟨x0,x1,x2,x,A,c⟩,by rw [e0,e1,e2,ex],⟨⟨b0,b1,b2⟩,⟨Sl.of_rds hb.rds,hl⟩⟩⟩
theorem seqc {M : Type} {size : Nat} {cell : M → List Value} {R : M → Prop} : ∀ (ms : List M) (xs : List Value), Seq size (fun cs m => cs = cell m ∧ R m) xs ms → xs = ms.flatMap cell ∧ ∀ m ∈ ms, R m
  | [],xs,h=>by
    have:=h.1
    simp at this
    exact ⟨by simp [this],by simp⟩
  | m :: r,xs,h=>by
    have h0:=h.2 0 m rfl
    rw [Nat.zero_mul,List.drop_zero] at h0
    have h1:=h.drop 1
    rw [Nat.one_mul] at h1
    obtain ⟨i1,i2⟩:=seqc r _ h1
    refine ⟨?_,fun y hy=>?_⟩
    · rw [List.flatMap_cons,← h0.1,← i1,List.take_append_drop]
    rcases List.mem_cons.1 hy with rfl | hy
    · exact h0.2
    exact i2 y hy
def IsDeeds (w : World) (v : Value) : Prop:=∃ (l : List De) (A : Option Addr) (c : Nat),v = .slice A l.length c ∧ Sl w A l.length 4 (l.flatMap decell) ∧ ∀ d ∈ l,DeOk w d
theorem open_ds {r : Reach} {b0 : Nat} {v : Value} {d : DataW H} {p : List MemPlace} (hv : Value.okWide Tryz.prog w r b0 22 v) (h : DataW.Trod enc Tryz.prog w 0 spare held 22 v d p) : IsDeeds w v:=by
  obtain ⟨A,m,q,xs,l,rfl,hm,hq,hl,rd,s⟩:=open_seq (rel:=fun cs x=>cs = decell x ∧ DeOk w x) (show Tryz.prog.cellsOf 60 = 4 by kernel_rfl) (by omega) Tryz.underlying22 (okWide_slice Tryz.underlying22 hv) h open_deed;subst hl;obtain ⟨e,hall⟩:=seqc l xs s;rw [e] at rd;exact ⟨l,A,q,rfl,Sl.of_rds rd,hall⟩
end
end Go.Proofs.YtekmhcdgmgbheaaGreatDoor
set_option maxRecDepth 100000
namespace Go.Proofs.YtekmhcdgmgbheaaGreatDoor
open Go.RowKit Go.Hub Go.Lib Go.Shelf Go.ChangeShapes Go.WideShapes Go.Deep
section
variable {H : Type} {enc : TypeId × Value → H} {w : World} {spare : Nat → Bool} {held : Bool}
theorem trod_slice2 {t e n : Nat} {v : Value} {y : DataW H × List MemPlace} (hu : Tryz.prog.underlying t = some (.slice e)) (h : DataW.trod enc Tryz.prog w 0 spare held n t [v] = some y) : ∃ a len cap,v = .slice a len cap:=by
  rcases open_slice hu h with ⟨hcs,_⟩ | ⟨a',len',cap',m,n,D,Pl,hcs,_⟩
  · simp at hcs; exact ⟨_,_,_,hcs⟩
  simp at hcs; exact ⟨_,_,_,hcs⟩
theorem agg_of {v : Value} {cs : List Value} (h : v.cells.toList = cs) (hn : cs.length ≠ 1) : v = .agg cs.toArray:=by
  have hsz : v.cells = cs.toArray:=Array.toList_inj.1 h
  cases v with
  | agg c=>rw [← hsz]; rfl
  | _=>
    have:=congrArg Array.size hsz;simp [Value.cells] at this;omega
def IsSp (v : Value) : Prop:=∃ p : Sp,v = .agg (scell p).toArray
theorem open_sp {r : Reach} {b0 : Nat} {v : Value} {d : DataW H} {p : List MemPlace} (hv : Value.okWide Tryz.prog w r b0 24 v) (h : DataW.Trod enc Tryz.prog w 0 spare held 24 v d p) : IsSp v:=by
  obtain ⟨fuel,f1⟩:=h;obtain ⟨us,n3,_,_,hcl,hul,hu⟩:=DataW.trod_struct U24 f1;have hcells : Tryz.prog.cellsOf 24 = 3:=by kernel_rfl
  rw [hcells] at hcl;have k2 : Tryz.prog.cellsOf 2 = 1:=by kernel_rfl
  have k3 : Tryz.prog.cellsOf 3 = 1:=by kernel_rfl
  have l3' : us.length = 3:=hul;obtain ⟨cs,hcs⟩ : ∃ cs,cs = v.cells.toList:=⟨_,rfl⟩;rw [← hcs] at hcl hu
  match cs,hcl with
  | [v3,v4,v5],_=>
    have u0 : DataW.trod enc Tryz.prog w 0 spare held n3 2 [v3] = us[0]?:=by have:=hu 0 _ rfl; simpa [k2] using this
    have u1 : DataW.trod enc Tryz.prog w 0 spare held n3 2 [v4] = us[1]?:=by have:=hu 1 _ rfl; simpa [k2] using this
    have u2 : DataW.trod enc Tryz.prog w 0 spare held n3 3 [v5] = us[2]?:=by have:=hu 2 _ rfl; simpa [k3] using this
    rw [List.getElem?_eq_getElem (by omega)] at u0 u1 u2;obtain ⟨x3,e3,_,_⟩:=DataW.trod_int U2 u0;obtain ⟨x4,e4,_,_⟩:=DataW.trod_int U2 u1;obtain ⟨x5,e5,_,_⟩:=DataW.trod_int U3 u2;simp at e3 e4 e5;subst e3 e4 e5;exact ⟨⟨x3,x4,x5⟩,agg_of hcs.symm (by simp)⟩
def IsMs (w : World) (v : Value) : Prop:=∃ m : Ms,v = .agg (mcell m).toArray ∧ PayS w ⟨dum m.pay,m.A,m.c⟩
theorem open_ms {r : Reach} {b0 : Nat} {v : Value} {d : DataW H} {p : List MemPlace} (hv : Value.okWide Tryz.prog w r b0 27 v) (h : DataW.Trod enc Tryz.prog w 0 spare held 27 v d p) : IsMs w v:=by
  obtain ⟨fuel,f1⟩:=h;obtain ⟨us,n3,_,_,hcl,hul,hu⟩:=DataW.trod_struct U27 f1;have hcells : Tryz.prog.cellsOf 27 = 4:=by kernel_rfl
  rw [hcells] at hcl;have k9 : Tryz.prog.cellsOf 9 = 1:=by kernel_rfl
  have k3 : Tryz.prog.cellsOf 3 = 1:=by kernel_rfl
  have k4 : Tryz.prog.cellsOf 4 = 1:=by kernel_rfl
  have ku : Tryz.prog.cellsOf 25 = 1:=by kernel_rfl
  have l4' : us.length = 4:=hul;obtain ⟨cs,hcs⟩ : ∃ cs,cs = v.cells.toList:=⟨_,rfl⟩;rw [← hcs] at hcl hu
  match cs,hcl with
  | [v0,v1,v2,v3],_=>
    have u0 : DataW.trod enc Tryz.prog w 0 spare held n3 9 [v0] = us[0]?:=by have:=hu 0 _ rfl; simpa [k9] using this
    have u1 : DataW.trod enc Tryz.prog w 0 spare held n3 25 [v1] = us[1]?:=by have:=hu 1 _ rfl; simpa [ku] using this
    have u2 : DataW.trod enc Tryz.prog w 0 spare held n3 3 [v2] = us[2]?:=by have:=hu 2 _ rfl; simpa [k3] using this
    have u3 : DataW.trod enc Tryz.prog w 0 spare held n3 4 [v3] = us[3]?:=by have:=hu 3 _ rfl; simpa [k4] using this
    rw [List.getElem?_eq_getElem (by omega)] at u0 u1 u2 u3;obtain ⟨x0,e0,_,_⟩:=DataW.trod_string U9 u0;obtain ⟨A,c,x,e1,hl,_,hb⟩:=open_bytesC [5] U25 U5 (show Tryz.prog.cellsOf 5 = 1 by kernel_rfl) u1;obtain ⟨x2,e2,_,_⟩:=DataW.trod_int U3 u2;obtain ⟨x3,e3,_⟩:=DataW.trod_bool U4 u3;simp at e0 e1 e2 e3;subst e0 e1 e2 e3;exact ⟨⟨x0,x,x2,x3,A,c⟩,agg_of hcs.symm (by simp),⟨Sl.of_rds hb.rds,hl⟩⟩
theorem open_dot (n : Nat) (cs : List Value) (y : DataW H × List MemPlace) (h : DataW.trod enc Tryz.prog w 0 spare held n 46 cs = some y) : ∃ x : Dt,cs = dcell x ∧ True:=by
  obtain ⟨us,n3,_,_,hcl,hul,hu⟩:=DataW.trod_struct U46 h;have hcells : Tryz.prog.cellsOf 46 = 3:=by kernel_rfl
  rw [hcells] at hcl;have k3 : Tryz.prog.cellsOf 3 = 1:=by kernel_rfl
  have l3' : us.length = 3:=hul
  match cs,hcl with
  | [v3,v4,v5],_=>
    have u0 : DataW.trod enc Tryz.prog w 0 spare held n3 3 [v3] = us[0]?:=by have:=hu 0 _ rfl; simpa [k3] using this
    have u1 : DataW.trod enc Tryz.prog w 0 spare held n3 3 [v4] = us[1]?:=by have:=hu 1 _ rfl; simpa [k3] using this
    have u2 : DataW.trod enc Tryz.prog w 0 spare held n3 3 [v5] = us[2]?:=by have:=hu 2 _ rfl; simpa [k3] using this
    rw [List.getElem?_eq_getElem (by omega)] at u0 u1 u2;obtain ⟨x3,e3,_,_⟩:=DataW.trod_int U3 u0;obtain ⟨x4,e4,_,_⟩:=DataW.trod_int U3 u1;obtain ⟨x5,e5,_,_⟩:=DataW.trod_int U3 u2;simp at e3 e4 e5;exact ⟨⟨x3,x4,x5⟩,by rw [e3,e4,e5],trivial⟩
theorem open_rw (n : Nat) (cs : List Value) (y : DataW H × List MemPlace) (h : DataW.trod enc Tryz.prog w 0 spare held n 32 cs = some y) : ∃ r : Rw,cs = [.slice r.A r.l.length r.c] ∧ Ds w r.A r.l:=by
  have hs : ∃ v,cs = [v]:=by
    rcases open_slice U32 h with ⟨hcs,_⟩ | ⟨a',len',cap',m,n,D,Pl,hcs,_⟩
    · exact ⟨_,hcs⟩
    exact ⟨_,hcs⟩
  obtain ⟨v,rfl⟩:=hs;obtain ⟨a,len,cap,rfl⟩:=trod_slice2 U32 h;have h' : DataW.Trod enc Tryz.prog w 0 spare held 32 (.slice a len cap) y.1 y.2:=⟨n,by simpa [Value.cells] using h⟩;obtain ⟨A,m,q,xs,l,e,hm,hq,hl,rd,s⟩:=open_seq (rel:=fun cs x=>cs = dcell x ∧ True) (show Tryz.prog.cellsOf 46 = 3 by kernel_rfl) (by omega) U32 ⟨_,_,_,rfl⟩ h' open_dot;subst hl;obtain ⟨e2,_⟩:=seqc l xs s;rw [e2] at rd
  injection e with e3 e4 e5
  subst e3 e4 e5;exact ⟨⟨l,a,cap⟩,rfl,Sl.of_rds rd⟩
def IsRws (w : World) (v : Value) : Prop:=∃ (rs : List Rw) (RA : Option Addr) (rc : Nat),v = .slice RA rs.length rc ∧ Sl w RA rs.length 1 (rs.map fun r=>.slice r.A r.l.length r.c) ∧ ∀ r ∈ rs,Ds w r.A r.l
theorem open_rws {r : Reach} {b0 : Nat} {v : Value} {d : DataW H} {p : List MemPlace} (hv : Value.okWide Tryz.prog w r b0 28 v) (h : DataW.Trod enc Tryz.prog w 0 spare held 28 v d p) : IsRws w v:=by
  obtain ⟨A,m,q,xs,l,rfl,hm,hq,hl,rd,s⟩:=open_seq (rel:=fun cs (x : Rw)=>cs = [.slice x.A x.l.length x.c] ∧ Ds w x.A x.l) (show Tryz.prog.cellsOf 32 = 1 by kernel_rfl) (by omega) U28 (okWide_slice U28 hv) h open_rw;subst hl;obtain ⟨e,hall⟩:=seqc (cell:=fun r : Rw=>[.slice r.A r.l.length r.c]) l xs s;rw [e] at rd;refine ⟨l,A,q,rfl,?_,hall⟩;have:=Sl.of_rds rd;rw [List.map_eq_flatMap];exact this
end
theorem tell_row {v0 v3 v4 v7 : Value} {x y b q u : Int} {w : World} (G : Glob w) (h0 : IsDeeds w v0) (h3 : IsSp v3) (h4 : IsMs w v4) (w5 : (Lit.int .u8 b).wf = true) (w6 : (Lit.int .u8 q).wf = true) (h7 : IsRws w v7) (w8 : (Lit.int .u16 u).wf = true) :
    Calls Tryz.prog 3 #[v0,.int .i64 x,.int .i64 y,v3,v4,.int .u8 b,.int .u8 q,v7,.int .u16 u] w fun e w'=>e = .returned (.bool true) ∧ Below w.heap.size w w':=by
  obtain ⟨l,A,c,rfl,DL,hE⟩:=h0;obtain ⟨s,rfl⟩:=h3;obtain ⟨m,rfl,MP⟩:=h4;obtain ⟨rs,RA,rc,rfl,RL,RD⟩:=h7;exact (tell_walk l A c x y s m b q rs RA rc u w G DL hE MP RL RD (bd8 w5) (bd8 w6) (bd16 w8)).mono fun _ _=>end_of
end Go.Proofs.YtekmhcdgmgbheaaGreatDoor
