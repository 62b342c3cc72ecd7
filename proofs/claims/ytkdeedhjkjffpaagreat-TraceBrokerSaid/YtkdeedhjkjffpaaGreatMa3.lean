/- Merged by program (shrink.py): contracts and plain laws that the claim's statement uses, part 3. -/
import Derived.Test.YtkdeedhjkjffpaaGreatMa2
set_option linter.all false
set_option maxRecDepth 100000
set_option maxHeartbeats 8000000

namespace Go.Proofs.YtkdeedhjkjffpaaGreat
open Go.RowKit Go.Hub
theorem Zp (a : Int) (b : Option Nat) : Tryz.prog.built 185 [(0,.int .i64 a),(2,.map b)] = some #[.int .i64 a,(.int .i64 0),.map b]:=by kernel_rfl
theorem Zq : (Tryz.prog.info? 109).map (·.size) = some 1:=by kernel_rfl
structure IdsR (w : World) (p im : Nat) (S : List Int) (most taken : Int) : Prop where
  top : Blk w p 185 #[.int .i64 most,.int .i64 taken,.map (some im)]
  set : IsSet Tryz.prog 3 4 w im S
  ne : im ≠ p
theorem IdsR.kept {w w' : World} {p c : Nat} {S : List Int} {b a : Int} {L : List Nat} (h : IdsR w p c S b a) (d : Kept L w w') (f : p ∉ L) (g : c ∉ L) : IdsR w' p c S b a:=⟨h.top.kept d f,h.set.kept d g,h.ne⟩
def Vg (most : Int) (w : World) (e : Ending) (w' : World) : Prop:=∃ p im,e = .returned (.pointer (some ⟨p,0,none⟩)) ∧ Kept [] w w' ∧ IdsR w' p im [] (Yz most 65535) 0 ∧ w.heap.size ≤ p ∧ w.heap.size ≤ im
def Mp (S : List Int) (most taken : Int) (p im : Nat) (w : World) (e : Ending) (w' : World) : Prop:=
  Kept [p,im] w w' ∧ if most ≤ S.length then e = .returned (.tuple #[.int .i64 0,.bool false]) ∧ IdsR w' p im S most taken else e = .returned (.tuple #[.int .i64 (Go.Ids.nxt S taken),.bool true]) ∧ IdsR w' p im (G1 (Go.Ids.nxt S taken) S) most (Go.Ids.nxt S taken)
theorem Xj {S : List Int} {a b : Int} {p c : Nat} {w w' : World} (h : a ≤ S.length) (d : Kept [p,c] w w') (A : IdsR w' p c S a b) : Mp S a b p c w (.returned (.tuple #[.int .i64 0,.bool false])) w':=by
  refine ⟨d,?_⟩;rw [if_pos h];exact ⟨rfl,A⟩
theorem x2b {S : List Int} {b a u : Int} {p c : Nat} {w w' : World} (h : ¬ b ≤ S.length) (f : Kept [p,c] w w') (A : IdsR w' p c (G1 (Go.Ids.nxt S a) S) b (Go.Ids.nxt S a)) (d : u = Go.Ids.nxt S a) : Mp S b a p c w (.returned (.tuple #[.int .i64 u,.bool true])) w':=by
  refine ⟨f,?_⟩;rw [if_neg h,d];exact ⟨rfl,A⟩
theorem Fw (x : Int) (w : World) : Calls Tryz.prog 15 #[.int .i64 x] w (fun e w'=>w = w' ∧ e = .returned (.int .i64 (Bf x))):=by
 refine Bw Tryz.func15 Tryz.ntmps15 fun _ f=>?_;refine pr f fun _ f=>?_;refine C.sk fun _ k=>?_;refine L.s f fun _ f=>?_;refine L.va f (E.max f rfl rfl) fun _ f=>?_;refine L.va f (E.min f rfl rfl) fun _ f=>?_;refine re f k ?_;exact ⟨rfl,rfl⟩
theorem Vh (c : Int) (w : World) : Calls Tryz.prog 84 #[.int .i64 c] w (Vg c w):=by
 have d : Kept [] w w:=Kept.refl [] w;refine Bw Tryz.func84 Tryz.ntmps84 fun _ f=>?_;refine pr f fun _ f=>?_;refine C.sk fun _ k=>?_;refine L.s f fun _ f=>?_;refine L.va f (E.max f rfl rfl) fun _ f=>?_;refine L.va f (E.min f rfl rfl) fun _ f=>?_;refine L.makeMap f Aa (by decide) 3 4 fun _ u r a q i f=>?_;have m:=a.lt;have o:=q.size;have g:=d.lo i;replace d:=d.z q;clear q;refine L.bd f (Zp _ _) fun _ f=>?_;refine L.box f Aa (by decide) rfl rfl fun _ v t N f=>?_;obtain ⟨l,q,j,n,p⟩:=N.al;have h:=d.lo j;have b : r ≠ t:=by have:=a.lt; omega
 replace d:=d.z q;replace a:=a.kept q (by simp);clear N q;refine re f k ?_;exact ⟨_,_,rfl,d,⟨l,a,b⟩,h,g⟩
theorem Tz (p g : Nat) (S : List Int) (b a : Int) (x : Int) (w : World) (A : IdsR w p g S b a) (u : (Lit.int .i64 x).wf = true) : Calls Tryz.prog 88 #[.pointer (some ⟨p,0,none⟩),.int .i64 x] w (fun e w'=>e = .returned (.bool (decide (x ∈ S))) ∧ Kept [g] w w' ∧ IdsR w' p g (S.erase x) b a):=by
 have i:=A.top;have d:=A.set;have c:=A.ne;have o : p ≠ g:=fun h=>c h.symm;have j : Kept [g] w w:=Kept.refl _ w;refine Bw Tryz.func88 Tryz.ntmps88 fun _ f=>?_;refine pr f fun _ f=>?_;refine wp_seq_k fun _ k=>C.sk fun _ t=>?_;(iterate 5 refine L.s f fun _ f=>?_);refine L.va f (E.look f d U3 U4 U109 (fun _=>by kernel_rfl) rfl rfl (by assumption)) fun _ f=>?_;refine pe f t fun _ f=>?_;refine f.sN 11 rfl (fun m f=>?_) (fun m f=>?_)
 ·have n:=m;refine C.cT f rfl ?_;refine rt f ?_;exact ⟨by simp_all,j,⟨i,by rw [List.erase_of_not_mem (by simp_all)]; exact d,c⟩⟩
 have n:=m;refine C.cF f rfl ?_;refine wp_skip (k _ _ ?_);refine C.sk fun _ k=>?_;(iterate 5 refine L.s f fun _ f=>?_);refine L.mapDrop f Aa d U3 U109 rfl rfl (by assumption) fun _ v r l f=>?_;have q:=l.size;replace j:=j.trans l (by simp);replace i:=i.kept l (by simp; omega);replace d:=r;clear l;refine wn k ?_;refine rt f ?_;exact ⟨by simp_all,j,⟨i,d,c⟩⟩
theorem x2c (p l : Nat) (S : List Int) (g b : Int) (w : World) (A : IdsR w p l S g b) (ht : 0 ≤ b) (hm : g ≤ 65535) (af : b ≤ 9223372036854775807) : Calls Tryz.prog 91 #[.pointer (some ⟨p,0,none⟩)] w (Mp S g b p l w):=by
 have d:=A.top;have j:=A.set;have x:=A.ne;have al : p ≠ l:=fun h=>x h.symm;have i : Kept [p,l] w w:=Kept.refl _ w;refine Bw Tryz.func91 Tryz.ntmps91 fun _ f=>?_;refine pr f fun _ f=>?_;refine wp_seq_k fun _ k=>?_;refine wp_seq_k fun _ k1=>?_;refine R.begin (S:=fun W=>Kept [] w W) (by kernel_rfl) (by exact (Kept.refl _ _).drewN 1) ?_;have s:=dk w 1;have a9:=dk w 1;obtain ⟨w1,n⟩ : ∃ W,W = w.drewN 1:=⟨_,rfl⟩;rw [← n] at s a9 ⊢;clear n;have ap:=s.size;refine rq [0,1,2,3] f fun _ f=>?_;refine R.t 4 f rfl s (fun W r=>(E.lenM f (j.kept r (by simp)) U109 rfl)) fun _ f=>?_;refine rq [5,6,7,8,9] f fun _ f=>?_;have ai:=s.size;replace i:=i.z s;replace d:=d.z s;replace j:=j.kept s (by simp);clear s;refine R.dn k1 ?_;refine f.sD 13 rfl (fun h0 f=>?_) (fun h0 f=>?_)
 ·have v:=h0;refine C.cT f rfl ?_;refine rt f ?_;exact Xj v i ⟨d,j,x⟩
 have ae:=h0;have hr:=Go.Ids.nxtG_some S b ht (by omega);refine C.cF f rfl ?_;refine wp_skip (k _ _ ?_);refine wp_block ?_;refine C.loop (fun gk a W=>∃ u : Int,Go.Ids.nxtG gk S (Go.Ids.stp u) = some (Go.Ids.nxt S b) ∧ 0 ≤ u ∧ u ≤ 9223372036854775807 ∧ Blk W p 185 #[.int .i64 g,.int .i64 u,.map (some l)] ∧ IsSet Tryz.prog 3 4 W l S ∧ Kept [p,l] w W ∧ Fr 45 a [(0,.pointer (some ⟨p,0,none⟩))]) (65535) ?_ ?_
 ·exact ⟨b,hr,ht,af,d,j,i,f.sub (sx sn)⟩
 intro a6 _ w2 hI ax a0;obtain ⟨u,hq,ag,b2,d,j,i,c⟩:=hI
 try clear f
 have hg:=y3r hq;have hb:=Go.Ids.stp_bd u ag;refine wp_block ?_;refine C.sk fun _ k=>?_;refine L.s c fun _ f=>?_;(iterate 4 refine L.s f fun _ f=>?_);refine L.va f (E.rem f rfl rfl (by omega) (Int.tmod_eq_emod_of_nonneg (by omega))) fun _ f=>?_;(iterate 3 refine L.s f fun _ f=>?_);refine L.store f Aa Z0 rfl rfl rfl d (by (simp [Value.cells]; done)) fun _ w3 f a5 m=>?_;have aq:=m.size;replace i:=i.trans m (by simp);replace j:=j.kept m (by simp; omega);replace d:=a5;simp only [Value.cells,List.setIfInBounds_toArray,List.set_cons_zero,List.set_cons_succ,Nat.reduceAdd,Nat.zero_add] at d;clear m;refine wn k ?_;refine wp_seq_k fun _ k=>?_;refine R.begin (S:=fun W=>Kept [] w3 W) (by kernel_rfl) (by exact (Kept.refl _ _).drewN 1) ?_;have s:=dk w3 1;have aa:=dk w3 1;obtain ⟨y,o⟩ : ∃ W,W = w3.drewN 1:=⟨_,rfl⟩;rw [← o] at s aa ⊢;clear o;have ar:=s.size;refine rq [0,1,2,3,4,5,6,7] f fun _ f=>?_;refine R.t 8 f rfl s (fun W r=>(E.look f (j.kept r (by simp)) U3 U4 U109 (fun _=>by kernel_rfl) rfl rfl (y2u (by omega)))) fun _ f=>?_;refine rq [9] f fun _ f=>?_;have aj:=s.size;replace i:=i.z s;replace j:=j.kept s (by simp);replace d:=d.z s;clear s;refine R.dn k ?_;refine f.sN 32 rfl (fun h1 f=>?_) (fun h1 f=>?_)
 ·have a2:=h1;refine C.cT f rfl ?_;refine wp_seq_k fun _ k=>?_;have KN:=Kept.refl [] y;refine R.begin (S:=fun W=>Kept [l] y W) (by kernel_rfl) (by exact (Kept.refl _ _).drewN 1) ?_;have s : Kept [l] y (y.drewN 1):=(Kept.refl _ _).drewN 1;have a1:=dk y 1;obtain ⟨w5,q⟩ : ∃ W,W = y.drewN 1:=⟨_,rfl⟩;rw [← q] at s a1 ⊢;clear q;have au:=s.size;replace KN:=KN.trans a1 (by simp);refine rq [0,1,2] f fun _ c=>?_;refine R.t 3 c rfl s (fun W r=>(E.load c U109 rfl rfl ((d.kept r (by simp; omega)).cl rfl))) fun _ c=>?_;refine rq [4,5,6] c fun _ c=>?_;refine R.t 7 c rfl s (fun W r=>(E.load c U3 rfl rfl ((d.kept r (by simp; omega)).cl rfl))) fun _ c=>?_;refine R.on 8 ?_;refine O.mapPut c rfl Aa (j.kept KN (by simp)) U3 U4 U109 rfl rfl rfl (y2u (by omega)) (by unfold maxLen; omega) (fun _ hk=>s.trans hk (by simp)) fun _ w6 IN ks c=>?_;replace s:=s.trans ks (by simp);have av:=ks.size;clear ks;have ak:=s.size;replace i:=i.trans s (by simp);replace d:=d.kept s (by simp; omega);clear s;refine R.dn k ?_;refine rt c ?_;have he:=x9z hq a2;exact x2b (by omega) i ⟨he ▸ d,he ▸ IN,x⟩ he
 have ac:=h1;refine C.cF f rfl ?_;refine wp_skip (a0 _ _ (a6 - 1) ?_ ?_)
 ·omega
 exact ⟨Go.Ids.stp u,x9y hq ac,by omega,by omega,d,j,i,f.sub (sx sn)⟩
end Go.Proofs.YtkdeedhjkjffpaaGreat
namespace Go.Proofs.YtkdeedhjkjffpaaGreat
open Go.RowKit Go.Hub
theorem Zr (a : Int) : Tryz.prog.built 160 [(0,.int .i64 a)] = some #[.int .i64 a,(.int .i64 0),(.slice none 0 0)]:=by kernel_rfl
theorem Zs : (Tryz.prog.info? 58).map (fun i=>(i.zero,i.size,i.bytes)) = some (some (.agg #[(.string ⟨#[]⟩),(.slice none 0 0),(.int .i64 0),(.bool false)]),4,56):=by kernel_rfl
theorem Zt : (Tryz.prog.info? 58).map (fun i=>(i.zero,i.size)) = some (some (.agg #[(.string ⟨#[]⟩),(.slice none 0 0),(.int .i64 0),(.bool false)]),4):=by kernel_rfl
theorem Zu (a b c d : Value) : Instr.fill (fun i=>some (i * 4,4)) ((Array.range (1 * 4)).map fun j=>(Value.cells (.agg #[(.string ⟨#[]⟩),(.slice none 0 0),(.int .i64 0),(.bool false)]))[j % (Value.cells (.agg #[(.string ⟨#[]⟩),(.slice none 0 0),(.int .i64 0),(.bool false)])).size]!) [(0,.agg #[a,b,c,d])] = some #[a,b,c,d]:=by kernel_rfl
theorem Zv : (Tryz.prog.info? 45).map (·.size) = some 1:=by kernel_rfl
theorem Zw : (Tryz.prog.info? 58).map (·.size) = some 4:=by kernel_rfl
theorem Zx  : Tryz.prog.built 58 [] = some #[(.string ⟨#[]⟩),(.slice none 0 0),(.int .i64 0),(.bool false)]:=by kernel_rfl
structure QuR (B : Nat) (w : World) (q : Nat) (A : Option Addr) (c : Nat) (l : List Mc) (lost : Int) : Prop where
  top : Blk w q 160 #[.int .i64 8,.int .i64 lost,.slice A l.length c]
  own : Own w 58 4 (.slice A l.length c) l.length (l.flatMap mcell)
  pay : ∀ m ∈ l,Pay B w m.A m.m.pay
  lo : B ≤ q
  loA : ∀ a,A = some a → B ≤ a.block
  len : l.length ≤ 8
def Xk (most : Int) (w : World) (e : Ending) (w' : World) : Prop:=∃ q,e = .returned (.pointer (some ⟨q,0,none⟩)) ∧ Kept [] w w' ∧ Blk w' q 160 #[.int .i64 (Yz most 65536),.int .i64 0,.slice none 0 0] ∧ w.heap.size ≤ q
def Pq (B q : Nat) (A : Option Addr) (l : List Mc) (lost : Int) (w : World) (e : Ending) (w' : World) : Prop:=
  Mod [160] [] B w w' ∧ ∃ (x : Mc) (A' : Option Addr) (c' : Nat) (r : List Mc),e = .returned (.tuple #[.agg (mcell x).toArray,.bool (!l.isEmpty)]) ∧ QuR B w' q A' c' r lost ∧ Pay B w' x.A x.m.pay ∧ (l = x :: r ∨ l = [] ∧ r = []) ∧ Jw w A A'
def Mq (B q : Nat) (A : Option Addr) (l : List Mc) (lost : Int) (m : Ms) (L : List Nat) (w : World) (e : Ending) (w' : World) : Prop:=
  Mod [160,58] [] B w w' ∧ Kept L w w' ∧ e = .returned (.bool (decide (l.length < 8))) ∧ ∃ A' c' l',QuR B w' q A' c' l' (if l.length < 8 then lost else lost + 1) ∧ (l'.map (·.m) = if l.length < 8 then l.map (·.m) ++ [m] else l.map (·.m)) ∧ Jw w A A'
section
variable {B q : Nat} {A Am A2 : Option Addr} {c cm c2 : Nat} {l : List Mc} {lost : Int} {m : Ms} {w W : World}
theorem x2d (l : List Mc) : ∀ u ∈ l.flatMap mcell,u.oneCell' = true:=fun u b=>by
  obtain ⟨x,_,a⟩:=List.mem_flatMap.1 b
  simp only [mcell,List.mem_cons,List.not_mem_nil,or_false] at a
  rcases a with rfl | rfl | rfl | rfl <;> rfl
theorem x2e (h : ((l.length : Nat) : Int) = 0) (i : QuR B w q A c l lost) (a : Mod [160] [] B w W) (d : QuR B W q A c l lost) : Pq B q A l lost w (.returned (.tuple #[.agg #[.string ⟨#[]⟩,.slice none 0 0,.int .i64 0,.bool false],.bool false])) W:=by
  obtain rfl : l = []:=List.eq_nil_of_length_eq_zero (by omega);have g : A = none ∨ True:=.inr trivial;exact ⟨a,⟨⟨⟨#[]⟩,[],0,false⟩,none,0⟩,A,c,[],rfl,d,Pay.nil _ _ _,.inr ⟨rfl,rfl⟩,fun b f=>.inl f⟩
theorem x5w {x : Mc} {r : List Mc} (g : QuR B w q A c (x :: r) lost) (i : Mod [160] [] B w W) (h : Blk W q 160 #[.int .i64 8, .int .i64 lost, .slice A2 r.length c2])
    (j : Own W 58 4 (.slice A2 r.length c2) r.length (r.flatMap mcell)) (f : ∀ m ∈ x :: r,Pay B W m.A m.m.pay) (d : ∀ b,A2.map (·.block) = some b → w.heap.size ≤ b) (k : B ≤ w.heap.size:=by omega) : Pq B q A (x :: r) lost w (.returned (.tuple #[.agg (mcell x).toArray,.bool true])) W:=by
  have p:=g.len;exact ⟨i,x,A2,c2,r,rfl,⟨h,j,fun m s=>f m (List.mem_cons_of_mem _ s),g.lo,fun a n=>Nat.le_trans k (d _ (by rw [n]; rfl)),by simp at p; omega⟩,f x (by simp),.inl rfl,fun b o=>.inr (d b o)⟩
theorem _root_.Go.Hub.Sl.ct {w : World} {A : Option Addr} {n size c : Nat} {xs : List Value} (h : Sl w A n size xs) {k : Nat} (p : k ≤ n) (o : n ≤ c) : Sl w (if c = k then A else A.map (·.add (k * size))) (n - k) size (xs.drop (k * size)):=by
  refine ⟨by rw [List.length_drop,h.1,Nat.sub_mul],fun i=>?_⟩;obtain ⟨b,a,e,f,g⟩:=h.2 (by omega);refine ⟨b,a + k * size,?_,f,fun j u d=>?_⟩
  · rw [if_neg (by omega), e]
    simp [Addr.add]
  rw [List.getElem?_drop] at d;rw [Nat.add_assoc];exact g _ u d
theorem Gw {e : TypeId} {size n c : Nat} {xs : List Value} (h : Own w e size (.slice A n c) n xs) : n ≤ c:=by
  obtain ⟨d,f,a,b,_⟩:=h.form
  injection a with _ _ e3
  subst e3;exact b
theorem y0d {x : Mc} {r : List Mc} (O : Own w 58 4 (.slice A (x :: r).length c) (x :: r).length ((x :: r).flatMap mcell)) : Sl w (if c = (1 : Int).toNat then A else A.map (·.add ((1 : Int).toNat * 4))) ((x :: r).length - (1 : Int).toNat) 4 (r.flatMap mcell):=Sl.ct (Sl.oO O) (k:=1) (by simp) (Gw O)
theorem Xl (h : (8 : Int) ≤ (l.length : Nat)) (j : QuR B w q A c l lost) (d : Mod [160,58] [] B w W) {L : List Nat} (f : Kept L w W) (g : QuR B W q A c l (lost + 1)) : Mq B q A l lost m L w (.returned (.bool false)) W:=by
  have a : ¬ l.length < 8:=by omega
  refine ⟨d,f,by rw [decide_eq_false a],A,c,l,?_,?_,fun b i=>.inl i⟩
  · rw [if_neg a]; exact g
  rw [if_neg a]
theorem Xm {w1 : World} (h : ¬ (8 : Int) ≤ (l.length : Nat)) (t : QuR B w q A c l lost) (j : Mod [160, 58] [] B w W) {L : List Nat} (k : Kept L w W) (g : Blk W q 160 #[.int .i64 8, .int .i64 lost, .slice A2 (l.length + 1) c2])
    (p : Own W 58 4 (.slice A2 (l.length + 1) c2) (l.length + 1) (l.flatMap mcell ++ [.string m.tp,.slice Am m.pay.length cm,.int .i64 m.qos,.bool m.ret])) (o : ∀ m ∈ l,Pay B W m.A m.m.pay) (i : Pay B W Am m.pay) (n : ∀ a,A2 = some a → B ≤ a.block) (r : ∀ b,A2.map (·.block) = some b → A.map (·.block) = some b ∨ w1.heap.size ≤ b) (u : w.heap.size ≤ w1.heap.size:=by omega) : Mq B q A l lost m L w (.returned (.bool true)) W:=by
  have f : l.length < 8:=by omega
  refine ⟨j,k,by rw [decide_eq_true f],A2,c2,l ++ [⟨m,Am,cm⟩],?_,?_,fun b s=>(r b s).imp id (Nat.le_trans u)⟩
  · rw [if_pos f]
    refine ⟨by simpa using g,?_,?_,t.lo,n,by simp; omega⟩
    · rw [List.length_append, List.flatMap_append]
      exact p
    intro x d
    rcases List.mem_append.1 d with d | d
    · exact o x d
    obtain rfl:=List.mem_singleton.1 d;exact i
  rw [if_pos f,List.map_append]
  rfl
end
theorem Xn (a : Int) (w : World) : Calls Tryz.prog 85 #[.int .i64 a] w (Xk a w):=by
 have d : Kept [] w w:=Kept.refl [] w;refine Bw Tryz.func85 Tryz.ntmps85 fun _ f=>?_;refine pr f fun _ f=>?_;refine C.sk fun _ k=>?_;refine L.s f fun _ f=>?_;refine L.va f (E.max f rfl rfl) fun _ f=>?_;refine L.va f (E.min f rfl rfl) fun _ f=>?_;refine L.bd f (Zr _) fun _ f=>?_;refine L.box f Aa (by decide) rfl rfl fun _ l j N f=>?_;obtain ⟨g,q,c,h,i⟩:=N.al;have b:=d.lo c;replace d:=d.z q;clear N q;refine re f k ?_;exact ⟨_,rfl,d,g,b⟩
theorem Gl (B q : Nat) (A : Option Addr) (c : Nat) (l : List Mc) (i : Int) (m : Ms) (Am : Option Addr) (cm : Nat) (w : World) (g : QuR B w q A c l i) (h : Pay B w Am m.pay) (hB : B ≤ w.heap.size) (hl : 0 ≤ i ∧ i ≤ 1000000000) : Calls Tryz.prog 71 #[.pointer (some ⟨q,0,none⟩),.agg #[.string m.tp,.slice Am m.pay.length cm,.int .i64 m.qos,.bool m.ret]] w (Mq B q A l i m (q :: (Value.slice A l.length c).ownBlock.toList) w):=by
 have j : Mod [160,58] [] B w w:=.refl _ _ _ _;have d:=g.top;have a:=g.own;have t:=g.pay;have b2:=g.lo;have b1:=g.len;obtain ⟨MM,n⟩ : ∃ MM,MM = (Value.slice A l.length c).ownBlock.toList:=⟨_,rfl⟩;have bj : q ∉ MM:=by rw [n]; exact Bc g.own g.top (by decide)
 have p : Kept (q :: MM) w w:=Kept.refl _ _;refine Bw Tryz.func71 Tryz.ntmps71 fun _ f=>?_;refine C.sk fun _ k=>?_;refine L.box f Aa (by decide) rfl rfl fun _ w1 g0 N f=>?_;obtain ⟨b,q1,ac,b4,b6⟩:=N.al;have ab:=j.lo ac;have af : q ≠ g0:=by have:=d.lt; omega
 replace j:=j.trans (.o0 q1);replace p:=p.trans q1 (by simp);replace d:=d.z q1;replace a:=a.mod (Mod.o0 (T:=[]) (M:=[]) (B:=B) q1) (by decide);replace t:=fun m hm=>(t m hm).mod (Mod.o0 (T:=[]) (M:=[]) (B:=B) q1) (by decide);replace h:=h.mod (Mod.o0 (T:=[]) (M:=[]) (B:=B) q1) (by decide);clear N q1;refine pe f k fun _ f=>?_;refine wp_seq_k fun _ k=>?_;refine wp_seq_k fun _ k1=>?_;refine R.begin (S:=fun W=>Kept [] w1 W) (by kernel_rfl) (by exact (Kept.refl _ _).drewN 1) ?_;have s:=dk w1 1;have aq:=dk w1 1;obtain ⟨w2,a5⟩ : ∃ W,W = w1.drewN 1:=⟨_,rfl⟩;rw [← a5] at s aq ⊢;clear a5;have b7:=s.size;refine rq [0,1,2,3,4,5,6,7,8,9] f fun _ f=>?_;have aw:=s.size;replace j:=j.trans (.o0 s);replace p:=p.trans s (by simp);replace d:=d.z s;replace a:=a.mod (Mod.o0 (T:=[]) (M:=[]) (B:=B) s) (by decide);replace t:=fun m hm=>(t m hm).mod (Mod.o0 (T:=[]) (M:=[]) (B:=B) s) (by decide);replace h:=h.mod (Mod.o0 (T:=[]) (M:=[]) (B:=B) s) (by decide);replace b:=b.z s;clear s;refine R.dn k1 ?_;refine C.sp f (fun h0 f=>?_) (fun h0 f=>?_)
 ·have a8:=h0;refine C.sk fun _ k1=>?_;refine L.s f fun _ v=>?_;(iterate 6 refine L.s v fun _ v=>?_);refine L.store v Aa Z0 rfl rfl rfl d (by (simp [Value.cells]; done)) fun _ w3 v ai a0=>?_;have ad:=a0.size;have r:=(Mod.of_blk (T:=[160]) (M:=[]) (B:=B) a0 d g.lo (by simp));replace j:=j.step r (by decide) (by simp) (by omega);replace p:=p.trans a0 (by simp);replace a:=a.mod r (by decide);replace t:=fun m hm=>(t m hm).mod r (by decide);replace h:=h.mod r (by decide);replace b:=b.kn a0;replace d:=ai;simp only [Value.cells,List.setIfInBounds_toArray,List.set_cons_zero,List.set_cons_succ,Nat.reduceAdd,Nat.zero_add] at d;clear a0;refine wn k1 ?_;refine rt v ?_;exact Xl a8 g j (n ▸ p) ⟨d,a,t,g.lo,g.loA,g.len⟩
 have a9:=h0;refine wp_skip (k _ _ ?_);refine wp_seq_k fun _ k=>?_;have b0 : g0 ∉ MM:=by rw [n]; exact F3 g.own ab
 have aa:=a;refine RB.begin (S:=fun W=>Kept MM w2 W) 8 (by kernel_rfl) (by exact (Kept.refl _ _).drewN 1) ?_;have s : Kept MM w2 (w2.drewN 1):=(Kept.refl _ _).drewN 1;have a7:=dk w2 1;obtain ⟨w3,a6⟩ : ∃ W,W = w2.drewN 1:=⟨_,rfl⟩;rw [← a6] at s a7 ⊢;clear a6;have ad:=s.size;replace h:=h.k0 a7;replace a:=a.mod (T:=[]) (M:=[]) (Mod.o0 (B:=B) a7) (by simp);refine rb [0,1,2,3] f fun _ f=>?_;refine RB.tk 4 f rfl s (fun W hW=>(E.load f U45 rfl rfl ((d.kept hW (by assumption)).cl rfl))) fun _ f=>?_;refine RB.tk 5 f rfl s (fun W hW=>(E.loadB f U58 rfl Zw rfl (b.kept hW (by assumption)) rfl)) fun _ f=>?_;refine RB.one 6 (by kernel_rfl) (by kernel_rfl) ?_;refine O.buildSlice f rfl Aa (by decide) (pL f rfl) U45 Zt rfl rfl (Zu _ _ _ _) (fun _ hk=>s.trans hk (by simp)) fun _ w4 g3 N o f=>?_;obtain ⟨ah,q1,b3,b5,b8⟩:=N.al;have av:=s.size;replace h:=h.k0 q1;replace a:=a.mod (T:=[]) (M:=[]) (Mod.o0 (B:=B) q1) (by simp);clear N q1;replace s:=o;clear o;refine RB.one 7 (by kernel_rfl) (by kernel_rfl) ?_;refine O.append f rfl Aa (by decide) U45 Zs rfl rfl rfl rfl (a) (Pm ah rfl) (by simp [Value.oneCell']) (by unfold maxLen; omega) (by omega) fun _ w5 A2 c2 u=>?_;have y : Kept MM w4 w5:=by rw [n]; exact u.kept
 have KA : Mod [58] [] B w4 w5:=.of_app u a g.loA (by simp);have RX:=u.own;have WX:=u.where_;have LX:=u.from g.loA (B:=B) (by omega);have o:=s.trans y (by exact fun x hx _=>hx);refine ⟨o,fun f=>?_⟩;have b9:=y.size;replace h:=h.mod KA (by decide);clear y;replace s:=o;clear o;refine RB.stop (by kernel_rfl) ?_;have ax:=s.size;have r:=Mod.oO (T:=[58]) (M:=[]) (B:=B) (n ▸ s) aa g.loA (by simp);replace j:=j.step r (by decide) (by simp) (by omega);replace p:=p.trans s (fun x hx _=>List.mem_cons_of_mem _ hx);replace d:=d.kept s (by assumption);replace t:=fun m hm=>(t m hm).mod r (by decide);replace b:=b.kept s (by assumption);clear s;refine rq [8,9] f fun _ f=>?_;refine R.on 10 ?_;refine OT.store f rfl Aa Zv rfl rfl rfl d (by (simp [Value.cells]; done)) fun _ w6 f aj a1=>?_;have ba:=a1.size;have r:=(Mod.of_blk (T:=[160]) (M:=[]) (B:=B) a1 d g.lo (by simp));replace j:=j.step r (by decide) (by simp) (by omega);replace p:=p.trans a1 (by simp);replace t:=fun m hm=>(t m hm).mod r (by decide);replace b:=b.kn a1;replace h:=h.mod r (by decide);replace RX:=RX.mod r (by decide);replace d:=aj;simp only [Value.cells,List.setIfInBounds_toArray,List.set_cons_zero,List.set_cons_succ,Nat.reduceAdd,Nat.zero_add] at d;clear a1;refine R.dn k ?_;refine rt f ?_;exact Xm a9 g j (n ▸ p) d RX t h LX WX
theorem x5x (B q : Nat) (A : Option Addr) (c : Nat) (l : List Mc) (a9 : Int) (w : World) (hq : QuR B w q A c l a9) (hB : B ≤ w.heap.size) : Calls Tryz.prog 104 #[.pointer (some ⟨q,0,none⟩)] w (Pq B q A l a9 w):=by
 have p : Mod [160] [] B w w:=.refl _ _ _ _;have n:=hq.top;have a:=hq.own;have v:=hq.pay;have b1:=hq.lo;have a8:=hq.len;refine Bw Tryz.func104 Tryz.ntmps104 fun _ f=>?_;refine C.sk fun _ k=>?_;refine L.alloc f Aa (by decide) (z:=(.agg #[(.string ⟨#[]⟩),(.slice none 0 0),(.int .i64 0),(.bool false)])) (fun _=>by kernel_rfl) rfl fun _ w1 g0 N f=>?_;obtain ⟨d,q1,ae,b3,b5⟩:=N.al;have ax:=p.lo ae;have aj : q ≠ g0:=by have:=n.lt; omega
 replace p:=p.trans (.o0 q1);replace n:=n.z q1;replace a:=a.mod (Mod.o0 (T:=[]) (M:=[]) (B:=B) q1) (by decide);replace v:=fun m hm=>(v m hm).mod (Mod.o0 (T:=[]) (M:=[]) (B:=B) q1) (by decide);clear N q1;refine pe f k fun _ f=>?_;refine wp_seq_k fun _ k=>?_;refine pr f fun _ f=>?_;refine f.sD 10 rfl (fun h0 a4=>?_) (fun h0 a4=>?_)
 ·have av:=h0;refine C.cT a4 rfl ?_;refine C.sk fun _ k1=>?_;refine L.bd a4 (Zx) fun _ a5=>?_;refine L.storeR a5 Aa Zw rfl rfl rfl d rfl rfl fun _ w2 a5 ao a2=>?_;have ah:=a2.size;replace p:=p.kN a2 (by simp; omega);replace n:=n.kn a2;replace a:=a.kept a2 (fun b hb hx=>by have:=(hq.own.blk b hb).1; simp at hx; omega);replace v:=fun m hm=>(v m hm).mod (Mod.of_blk (T:=[58]) (M:=[]) (B:=B) a2 d (by omega) (by simp)) (by decide);replace d:=ao;clear a2;refine pe a5 k1 fun _ a5=>?_;refine wp_ret ?_; (try simp only [xt,xb]); refine C.retCT a5 rfl rfl rfl d U58 rfl Zw ?_;exact x2e av hq p ⟨n,a,v,hq.lo,hq.loA,hq.len⟩
 clear f
 obtain ⟨x,r,rfl⟩ : ∃ x r,l = x :: r:=by
   cases l with
   | nil=>simp at h0
   | cons x r=>exact ⟨x,r,rfl⟩
 obtain ⟨b,bg,hA⟩:=(Sl.oO a).addr (by simp);refine C.cF a4 rfl ?_;refine wp_skip (k _ _ ?_);have f:=a4.pk [0,2,3];refine C.sk fun _ k=>?_;(iterate 5 refine L.s f fun _ f=>?_);refine L.va f (by (exact E.loadR f U58 rfl Zw rfl ((Sl.row (i:=0) (cs:=mcell x) (Sl.oO a) (by simp) hA (by intro j u hu; rw [Nat.zero_mul,Nat.zero_add,List.flatMap_cons,List.getElem?_append_left (List.getElem?_eq_some_iff.1 hu).1]; exact hu))) rfl)) fun _ f=>?_;refine L.alloc f Aa (by decide) (z:=(.agg #[(.string ⟨#[]⟩),(.slice none 0 0),(.int .i64 0),(.bool false)])) (fun _=>by kernel_rfl) rfl fun _ w2 g1 N f=>?_;obtain ⟨o,q1,af,b4,ah⟩:=N.al;have ay:=p.lo af;have ak : q ≠ g1:=by have:=n.lt; omega
 have ag : g0 ≠ g1:=by have:=d.lt; omega
 replace p:=p.trans (.o0 q1);replace n:=n.z q1;replace a:=a.mod (Mod.o0 (T:=[]) (M:=[]) (B:=B) q1) (by decide);replace v:=fun m hm=>(v m hm).mod (Mod.o0 (T:=[]) (M:=[]) (B:=B) q1) (by decide);replace d:=d.z q1;clear N q1;refine L.storeR f Aa Zw rfl rfl rfl o rfl rfl fun _ w3 f ap y=>?_;have b6:=y.size;replace p:=p.kN y (by simp; omega);replace n:=n.kn y;replace a:=a.kept y (fun b hb hx=>by have:=(hq.own.blk b hb).1; simp at hx; omega);replace v:=fun m hm=>(v m hm).mod (Mod.of_blk (T:=[58]) (M:=[]) (B:=B) y o (by omega) (by simp)) (by decide);replace d:=d.kn y;replace o:=ap;clear y;refine wn k (C.sk fun _ k=>?_);(iterate 5 refine L.s f fun _ f=>?_);refine L.va f (E.slLlo f U45 Zw rfl rfl (by omega) (by omega) ) fun _ f=>?_;refine L.append f Aa (by decide) U45 Zs rfl rfl rfl rfl ((Own.nil _ 58 4)) ((y0d a)) (x2d r) (by unfold maxLen; simp only [List.length_cons] at a8 ⊢; omega) (by simp only [List.length_cons] at a8 ⊢; omega) fun _ w4 A2 c2 aa f=>?_;have g : Mod [] [] B w3 w4:=.o0 (by simpa [Value.ownBlock] using aa.kept);have RX:=aa.own;rw [List.nil_append,Nat.zero_add] at RX;have ad : ∀ b,A2.map (·.block) = some b → w3.heap.size ≤ b:=fun b hb=>(aa.where_ b hb).elim (fun h=>by cases h) id;have LX : ∀ b,A2.map (·.block) = some b → w.heap.size ≤ b:=fun b hb=>by have:=ad b hb; omega
 have b7:=g.size;replace p:=p.step g (by decide) (by simp) (by omega);replace n:=n.mod g (by decide);replace a:=a.mod g (by decide);replace v:=fun m hm=>(v m hm).mod g (by decide);replace d:=d.mod g (by decide);replace o:=o.mod g (by decide);clear g;(iterate 2 refine L.s f fun _ f=>?_);refine L.store f Aa Zv rfl rfl rfl n (by (simp [Value.cells]; done)) fun _ w5 f aq a7=>?_;have b8:=a7.size;have KM:=(Mod.of_blk (T:=[160]) (M:=[]) (B:=B) a7 n hq.lo (by simp));replace p:=p.step KM (by decide) (by simp) (by omega);replace a:=a.mod KM (by decide);replace v:=fun m hm=>(v m hm).mod KM (by decide);replace d:=d.kn a7;replace o:=o.kn a7;replace RX:=RX.mod KM (by decide);replace n:=aq;simp only [Value.cells,List.setIfInBounds_toArray,List.set_cons_zero,List.set_cons_succ,Nat.reduceAdd,Nat.zero_add] at n;clear a7;refine wn k (C.sk fun _ k=>?_);refine L.s f fun _ f=>?_;refine L.storeR f Aa Zw rfl rfl rfl d rfl rfl fun _ w6 f ar t=>?_;have b9:=t.size;replace p:=p.kN t (by simp; omega);replace a:=a.kept t (fun b hb hx=>by have:=(hq.own.blk b hb).1; simp at hx; omega);replace v:=fun m hm=>(v m hm).mod (Mod.of_blk (T:=[58]) (M:=[]) (B:=B) t d (by omega) (by simp)) (by decide);replace o:=o.kn t
 replace RX:=RX.kept t (fun b hb hx=>by have:=ad b ((Ag _ _ _ _).1 hb); simp at hx; omega);replace n:=n.kn t;replace d:=ar;clear t;refine pe f k fun _ f=>?_;refine wp_ret ?_; (try simp only [xt,xb]); refine C.retCT f rfl rfl rfl d U58 rfl Zw ?_;exact x5w hq p n RX v LX
end Go.Proofs.YtkdeedhjkjffpaaGreat
namespace Go.Proofs.YtkdeedhjkjffpaaGreat
open Go.RowKit Go.Hub
abbrev rcell (f : Fc) : List Value:=[.int .i64 f.id,.int .i64 f.at_,.string f.x.m.tp,.slice f.x.A f.x.m.pay.length f.x.c,.int .i64 f.x.m.qos,.bool f.x.m.ret,.bool f.rc]
structure FlyR (B : Nat) (w : World) (A : Option Addr) (c : Nat) (l : List Fc) : Prop where
  own : Own w 143 7 (.slice A l.length c) l.length (l.flatMap rcell)
  pay : ∀ f ∈ l,Pay B w f.x.A f.x.m.pay
  loA : ∀ a,A = some a → B ≤ a.block
  len : l.length ≤ 4
structure LsR (B : Nat) (w : World) (A : Option Addr) (c : Nat) (l : FE) : Prop where
  own : Own w 79 2 (.slice A l.length c) l.length (l.flatMap scp)
  loA : ∀ a,A = some a → B ≤ a.block
structure Rs where
  cl : ByteArray
  ls : FE
  LA : Option Addr
  lc : Nat
  ip : Nat
  im : Nat
  q : Nat
  gm : Nat
  used : List Int
  taken : Int
  fly : List Fc
  FA : Option Addr
  fc : Nat
  wait : List Mc
  QA : Option Addr
  qc : Nat
  lost : Int
  got : List Int
def Rs.abs (s : Rs) : SA:=⟨s.used,s.taken,s.fly.map Fc.abs,s.wait.map (·.m),s.lost,s.got⟩
structure Rs.Like (w : World) (s s' : Rs) : Prop where
  im : s'.im = s.im
  gm : s'.gm = s.gm
  cl : s'.cl = s.cl
  ls : s'.ls = s.ls
  qa : Jw w s.QA s'.QA
abbrev Rs.cells (s : Rs) : Array Value:=#[.string s.cl,.slice s.LA s.ls.length s.lc,.pointer (some ⟨s.ip,0,none⟩),.pointer (some ⟨s.q,0,none⟩),.slice s.FA s.fly.length s.fc,.map (some s.gm)]
structure RefAt (B : Nat) (w : World) (p : Nat) (s : Rs) : Prop where
  top : Blk w p 111 s.cells
  ids : IdsR w s.ip s.im s.used 65535 s.taken
  qu : QuR B w s.q s.QA s.qc s.wait s.lost
  fly : FlyR B w s.FA s.fc s.fly
  ls : LsR B w s.LA s.lc s.ls
  got : IsSet Tryz.prog 3 4 w s.gm s.got
  ne : s.im ≠ s.gm
  lop : B ≤ p
  loi : B ≤ s.ip
  lom : B ≤ s.im
  log : B ≤ s.gm
  tk : 0 ≤ s.taken ∧ s.taken ≤ 65535
  perm : s.used.Perm (s.fly.map (·.id))
  ats : ∀ f ∈ s.fly,-1099511627776 ≤ f.at_ ∧ f.at_ ≤ 1099511627776
  idb : ∀ f ∈ s.fly,1 ≤ f.id ∧ f.id ≤ 65535
section
variable {T : List TypeId} {M : List Nat} {B : Nat} {w w' w0 : World} {A : Option Addr} {c p q : Nat}
theorem QuR.mod {l : List Mc} {a : Int} (h : QuR B w q A c l a) (d : Mod T M B w w') (b : (160 : TypeId) ∉ T ∧ (58 : TypeId) ∉ T ∧ (5 : TypeId) ∉ T) : QuR B w' q A c l a:=
  ⟨h.top.mod d b.1,h.own.mod d b.2.1,fun m f=>(h.pay m f).mod d b.2.2,h.lo,h.loA,h.len⟩
theorem FlyR.mod {l : List Fc} (h : FlyR B w A c l) (b : Mod T M B w w') (a : (143 : TypeId) ∉ T ∧ (5 : TypeId) ∉ T) : FlyR B w' A c l:=
  ⟨h.own.mod b a.1,fun m d=>(h.pay m d).mod b a.2,h.loA,h.len⟩
theorem LsR.mod {l : FE} (h : LsR B w A c l) (b : Mod T M B w w') (a : (79 : TypeId) ∉ T) : LsR B w' A c l:=⟨h.own.mod b a,h.loA⟩
theorem IdsR.mod {g d : Nat} {S : List Int} {b a : Int} (h : IdsR w g d S b a) (f : Mod T M B w w') (j : (185 : TypeId) ∉ T) (i : d ∉ M) : IdsR w' g d S b a:=⟨h.top.mod f j,h.set.mod f i,h.ne⟩
theorem RefAt.mod {s : Rs} (h : RefAt B w p s) (b : Mod T [] B w w') (a : ∀ t ∈ ([111,185,160,58,143,79,5] : List TypeId),t ∉ T) : RefAt B w' p s:=
  ⟨h.top.mod b (a _ (by simp)),h.ids.mod b (a _ (by simp)) (by simp),h.qu.mod b ⟨a _ (by simp),a _ (by simp),a _ (by simp)⟩,h.fly.mod b ⟨a _ (by simp),a _ (by simp)⟩,h.ls.mod b (a _ (by simp)),h.got.mod b (by simp),h.ne,h.lop,h.loi,h.lom,h.log,h.tk,h.perm,h.ats,h.idb⟩
theorem RefAt.k0 {s : Rs} (h : RefAt B w p s) (a : Kept [] w w') : RefAt B w' p s:=h.mod (T:=[]) (.o0 a) (by simp)
theorem RefAt.used_lt {s : Rs} (h : RefAt B w p s) : s.used.length < 65535:=by
  have a:=h.perm.length_eq;have b:=h.fly.len;rw [List.length_map] at a;omega
end
theorem Fx (l : List Fc) : (l.flatMap rcell).length = l.length * 7:=N0 rcell 7 (fun _=>rfl) l
theorem x5y (B c b : Nat) (S : List Int) (a : Int) (w : World) (A : IdsR w c b S 65535 a) (j : S.length < 65535) (d : 0 ≤ a) (l : a ≤ 65535) (g : B ≤ c) (i : B ≤ b) :
    Calls Tryz.prog 91 #[.pointer (some ⟨c,0,none⟩)] w fun e w'=>e = .returned (.tuple #[.int .i64 (Go.Ids.nxt S a),.bool true]) ∧ Mod [185] [b] B w w' ∧ IdsR w' c b (G1 (Go.Ids.nxt S a) S) 65535 (Go.Ids.nxt S a) ∧ Go.Ids.nxt S a ∉ S ∧ 1 ≤ Go.Ids.nxt S a ∧ Go.Ids.nxt S a ≤ 65535:=by
  refine (x2c c b S 65535 a w A d (by omega) (by omega)).mono ?_;rintro e w' ⟨k,h⟩;rw [if_neg (by omega)] at h;refine ⟨h.1,.of_kept k ?_,h.2,Go.Ids.nxt_spec S a d j⟩;intro x f _;simp only [List.mem_cons,List.not_mem_nil,or_false] at f
  rcases f with rfl | rfl
  · exact ⟨g,.inl (A.top.typ (by simp))⟩
  exact ⟨i,.inr ⟨A.set.map,by simp⟩⟩
end Go.Proofs.YtkdeedhjkjffpaaGreat
namespace Go.Proofs.YtkdeedhjkjffpaaGreat
open Go.RowKit Go.Hub
theorem Zy (a : Int) (b : ByteArray) (c : Option Addr) (i j : Nat) (d : Int) (f : Bool) (g : Int) (h : Bool) : Tryz.prog.built 39 [(0,.int .i64 a),(5,.string b),(6,.slice c i j),(3,.int .i64 d),(2,.bool f),(4,.int .i64 g),(1,.bool h)] = some #[.int .i64 a,.bool h,.bool f,.int .i64 d,.int .i64 g,.string b,.slice c i j,(.int .i64 0),(.string ⟨#[]⟩),(.bool false),(.int .i64 0),(.bool false),(.string ⟨#[]⟩),(.slice none 0 0),(.int .i64 0),(.bool false),(.bool false),(.bool false),(.string ⟨#[]⟩),(.slice none 0 0),(.bool false),(.int .i64 0),(.slice none 0 0),(.slice none 0 0)]:=by kernel_rfl
theorem Zz : (Tryz.prog.info? 143).map (fun i=>(i.zero,i.size,i.bytes)) = some (some (.agg #[(.int .i64 0),(.int .i64 0),(.string ⟨#[]⟩),(.slice none 0 0),(.int .i64 0),(.bool false),(.bool false)]),7,80):=by kernel_rfl
theorem Z01 : (Tryz.prog.info? 143).map (fun i=>(i.zero,i.size)) = some (some (.agg #[(.int .i64 0),(.int .i64 0),(.string ⟨#[]⟩),(.slice none 0 0),(.int .i64 0),(.bool false),(.bool false)]),7):=by kernel_rfl
theorem Z11 (a b c d f g h : Value) : Instr.fill (fun i=>some (i * 7,7)) ((Array.range (1 * 7)).map fun j=>(Value.cells (.agg #[(.int .i64 0),(.int .i64 0),(.string ⟨#[]⟩),(.slice none 0 0),(.int .i64 0),(.bool false),(.bool false)]))[j % (Value.cells (.agg #[(.int .i64 0),(.int .i64 0),(.string ⟨#[]⟩),(.slice none 0 0),(.int .i64 0),(.bool false),(.bool false)])).size]!) [(0,.agg #[a,b,c,d,f,g,h])] = some #[a,b,c,d,f,g,h]:=by kernel_rfl
theorem Z21 : (Tryz.prog.info? 106).map (·.size) = some 1:=by kernel_rfl
theorem Z31 : (Tryz.prog.info? 108).map (·.size) = some 1:=by kernel_rfl
theorem Z41 (f : Int) (g : Int) (a b c d : Value) : Tryz.prog.built 143 [(0,.int .i64 f),(1,.int .i64 g),(2,.agg #[a,b,c,d])] = some #[.int .i64 f,.int .i64 g,a,b,c,d,(.bool false)]:=by kernel_rfl
def Sy (B p : Nat) (s : Rs) (m : Ms) (now : Int) (w : World) (e : Ending) (w' : World) : Prop:=
  ∃ s' A c,e = .returned (.agg (pcell ⟨Fh s.abs m,A,c⟩).toArray) ∧ RefAt B w' p s' ∧ s'.abs = Hf s.abs m now ∧ Rs.Like w s s' ∧ Mod [111,185,143] [s.im] B w w' ∧ Pay B w' A m.pay
theorem x2f {B p : Nat} {s : Rs} {m : Ms} {now : Int} {w W : World} {l h : Option Addr} {o j : Nat} (d : RefAt B w p s) (k : 1 ≤ Go.Ids.nxt s.used s.taken ∧ Go.Ids.nxt s.used s.taken ≤ 65535) (r : Go.Ids.nxt s.used s.taken ∉ s.used) (z : s.fly.length < 4) (i : Mod [111, 185, 143] [s.im] B w W)
    (u : Blk W p 111 #[.string s.cl,.slice s.LA s.ls.length s.lc,.pointer (some ⟨s.ip,0,none⟩),.pointer (some ⟨s.q,0,none⟩),.slice l (s.fly.length + 1) o,.map (some s.gm)]) (n : IdsR W s.ip s.im (G1 (Go.Ids.nxt s.used s.taken) s.used) 65535 (Go.Ids.nxt s.used s.taken))
    (x : Own W 143 7 (.slice l (s.fly.length + 1) o) (s.fly.length + 1) (s.fly.flatMap rcell ++ [.int .i64 (Go.Ids.nxt s.used s.taken),.int .i64 (Bf now),.string m.tp,.slice h m.pay.length j,.int .i64 m.qos,.bool m.ret,.bool false])) (t : Pay B W h m.pay) (v : ∀ a,l = some a → B ≤ a.block) :
    Sy B p s m now w (.returned (.agg (Vc m.tp h m.pay.length j m.qos m.ret (Go.Ids.nxt s.used s.taken) false))) W:=by
  have g : (s.fly ++ [(⟨⟨m,h,j⟩,Go.Ids.nxt s.used s.taken,Bf now,false⟩ : Fc)]).length = s.fly.length + 1:=by simp
  refine ⟨{ s with used:=G1 (Go.Ids.nxt s.used s.taken) s.used,taken:=Go.Ids.nxt s.used s.taken,fly:=s.fly ++ [⟨⟨m,h,j⟩,Go.Ids.nxt s.used s.taken,Bf now,false⟩],FA:=l,fc:=o },h,j,rfl,?_,?_,⟨rfl,rfl,rfl,rfl,fun b y=>.inl y⟩,i,t⟩
  · refine ⟨by simpa [Rs.cells] using u, n, d.qu.mod i (by decide), ⟨?_, ?_, v, by show (s.fly ++ [_]).length ≤ 4; rw [g]; omega⟩, d.ls.mod i (by decide), d.got.mod i (by simpa using Ne.symm d.ne), d.ne, d.lop, d.loi, d.lom, d.log, ⟨by show 0 ≤ Go.Ids.nxt s.used s.taken; omega, k.2⟩, ?_, ?_, ?_⟩
    · simp only [g, List.flatMap_append]
      exact x
    · intro f c
      rcases List.mem_append.1 c with c | c
      · exact (d.fly.pay f c).mod i (by decide)
      obtain rfl:=List.mem_singleton.1 c;exact t
    · show (G1 (Go.Ids.nxt s.used s.taken) s.used).Perm _
      rw [G1,if_neg r,List.map_append];exact (List.Perm.cons _ d.perm).trans (List.perm_append_singleton _ _).symm
    · intro f c
      rcases List.mem_append.1 c with c | c
      · exact d.ats f c
      obtain rfl:=List.mem_singleton.1 c;exact I3 now
    intro f c
    rcases List.mem_append.1 c with c | c
    · exact d.idb f c
    obtain rfl:=List.mem_singleton.1 c;exact k
  simp [Rs.abs,Hf,Fc.abs]
theorem Hw (m : Ms) (n : Option Addr) (o : Nat) (id : Int) (g : Bool) (w : World) : Calls Tryz.prog 69 #[.agg #[.string m.tp,.slice n m.pay.length o,.int .i64 m.qos,.bool m.ret],.int .i64 id,.bool g] w (fun e w'=>Kept [] w w' ∧ e = .returned (.agg (Vc m.tp n m.pay.length o m.qos m.ret id g))):=by
 have b : Kept [] w w:=Kept.refl [] w;refine Bw Tryz.func69 Tryz.ntmps69 fun _ f=>?_;refine C.sk fun _ k=>?_;refine L.box f Aa (by decide) rfl rfl fun _ w1 g0 N f=>?_;obtain ⟨a,q,h,u,y⟩:=N.al;have p:=b.lo h;replace b:=b.z q;clear N q;refine L.alloc f Aa (by decide) (z:=(.agg #[(.int .i64 0),(.bool false),(.bool false),(.int .i64 0),(.int .i64 0),(.string ⟨#[]⟩),(.slice none 0 0),(.int .i64 0),(.string ⟨#[]⟩),(.bool false),(.int .i64 0),(.bool false),(.string ⟨#[]⟩),(.slice none 0 0),(.int .i64 0),(.bool false),(.bool false),(.bool false),(.string ⟨#[]⟩),(.slice none 0 0),(.bool false),(.int .i64 0),(.slice none 0 0),(.slice none 0 0)])) (fun _=>by kernel_rfl) rfl fun _ w2 g1 N f=>?_;obtain ⟨d,q,i,v,a0⟩:=N.al;have r:=b.lo i;have j : g0 ≠ g1:=by have:=a.lt; omega
 replace b:=b.z q;replace a:=a.z q;clear N q;refine wn k (C.sk fun _ k=>?_);(iterate 10 refine L.s f fun _ f=>?_);refine L.bd f (Zy _ _ _ _ _ _ _ _ _) fun _ f=>?_;refine L.storeR f Aa Z8 rfl rfl rfl d rfl rfl fun _ w3 f l c=>?_;have a1:=c.size;replace b:=b.trans c (by intro x t a4; simp at t; subst t; (exfalso; omega));replace a:=a.kn c;replace d:=l;clear c;refine wn k (wp_ret ?_); (try simp only [xt,xb]); refine C.retC f rfl rfl d U39 rfl Z8 ?_;exact ⟨b,rfl⟩
theorem Mr (B p : Nat) (s : Rs) (m : Ms) (Am : Option Addr) (cm : Nat) (now : Int) (w : World) (j : RefAt B w p s) (g : Pay B w Am m.pay) (hB : B ≤ w.heap.size) (h4 : s.fly.length < 4) : Calls Tryz.prog 70 #[.pointer (some ⟨p,0,none⟩),.agg #[.string m.tp,.slice Am m.pay.length cm,.int .i64 m.qos,.bool m.ret],.int .i64 now] w (Sy B p s m now w):=by
 have i : Mod [111,185,143] [s.im] B w w:=.refl _ _ _ _;have d:=j.top;have c:=j.fly.own;have az:=j.lop;have ar:=j.used_lt;obtain ⟨y,r⟩ : ∃ y,y = (Value.slice s.FA s.fly.length s.fc).ownBlock.toList:=⟨_,rfl⟩;have bk : p ∉ y:=by rw [r]; exact Bc j.fly.own j.top (by decide)
 have a8:=j.tk;have ID:=j.ids;refine Bw Tryz.func70 Tryz.ntmps70 fun _ f=>?_;refine C.sk fun _ k=>?_;refine L.box f Aa (by decide) rfl rfl fun _ w1 g0 N f=>?_;obtain ⟨a,q,a9,b1,b4⟩:=N.al;have a6:=i.lo a9;have ad : p ≠ g0:=by have:=d.lt; omega
 replace i:=i.trans (.o0 q);replace d:=d.z q;replace c:=c.mod (Mod.o0 (T:=[]) (M:=[]) (B:=B) q) (by decide);replace g:=g.mod (Mod.o0 (T:=[]) (M:=[]) (B:=B) q) (by decide);replace ID:=ID.mod (Mod.o0 (T:=[]) (M:=[]) (B:=B) q) (by decide) (by simp);clear N q;refine L.alloc f Aa (by decide) (z:=(.agg #[(.int .i64 0),(.bool false),(.bool false),(.int .i64 0),(.int .i64 0),(.string ⟨#[]⟩),(.slice none 0 0),(.int .i64 0),(.string ⟨#[]⟩),(.bool false),(.int .i64 0),(.bool false),(.string ⟨#[]⟩),(.slice none 0 0),(.int .i64 0),(.bool false),(.bool false),(.bool false),(.string ⟨#[]⟩),(.slice none 0 0),(.bool false),(.int .i64 0),(.slice none 0 0),(.slice none 0 0)])) (fun _=>by kernel_rfl) rfl fun _ w2 g1 N f=>?_;obtain ⟨b,q,aa,b2,b5⟩:=N.al;have a7:=i.lo aa;have ae : p ≠ g1:=by have:=d.lt; omega
 have ab : g0 ≠ g1:=by have:=a.lt; omega
 replace i:=i.trans (.o0 q);replace d:=d.z q;replace c:=c.mod (Mod.o0 (T:=[]) (M:=[]) (B:=B) q) (by decide);replace g:=g.mod (Mod.o0 (T:=[]) (M:=[]) (B:=B) q) (by decide);replace ID:=ID.mod (Mod.o0 (T:=[]) (M:=[]) (B:=B) q) (by decide) (by simp);replace a:=a.z q;clear N q;refine wn k (C.sk fun _ k=>?_);(iterate 3 refine L.s f fun _ f=>?_);refine L.va f (E.load f Tryz.underlying106 rfl rfl ((d).cl rfl)) fun _ f=>?_;refine L.cl f (Dt f Tryz.call91) (x5y B s.ip s.im s.used s.taken _ ID ar a8.1 a8.2 j.loi j.lom) ?_;rintro e w3 ⟨rfl,q,h,ap,aq⟩;refine ⟨_,rfl,fun _ f=>?_⟩;have b6:=q.size;replace i:=i.step q (by decide) (by simp) (by omega);replace d:=d.mod q (by decide);replace c:=c.mod q (by decide);replace g:=g.mod q (by decide);replace a:=a.mod q (by decide);replace b:=b.mod q (by decide);clear q;refine pe f k fun _ f=>?_;refine wp_seq_k fun _ k=>?_;have ax : g0 ∉ y:=by rw [r]; exact F3 j.fly.own a6
 have ay : g1 ∉ y:=by rw [r]; exact F3 j.fly.own a7
 have a5:=c;refine RB.begin (S:=fun W=>Kept y w3 W) 12 (by kernel_rfl) (by exact (Kept.refl _ _).drewN 1) ?_;have n : Kept y w3 (w3.drewN 1):=(Kept.refl _ _).drewN 1;have a3:=dk w3 1;obtain ⟨w4,a0⟩ : ∃ W,W = w3.drewN 1:=⟨_,rfl⟩;rw [← a0] at n a3 ⊢;clear a0;have b7:=n.size;replace g:=g.k0 a3;replace c:=c.mod (T:=[]) (M:=[]) (Mod.o0 (B:=B) a3) (by simp);refine rb [0,1,2,3] f fun _ f=>?_;refine RB.tk 4 f rfl n (fun W hW=>(E.load f U108 rfl rfl ((d.kept hW (by assumption)).cl rfl))) fun _ f=>?_;refine rb [5,6] f fun _ f=>?_;refine RB.tk 8 f rfl n (fun W hW=>(E.loadB f U58 rfl Zw rfl (a.kept hW (by assumption)) rfl)) fun _ f=>?_;refine RB.cl 7 f rfl (Dt f Tryz.call15) (Fw now _) ?_;rintro e bm ⟨rfl,rfl⟩;refine ⟨_,rfl,n,fun _ f=>?_⟩;refine RB.p 9 f rfl n (E.build f (pL f rfl) (Z41 _ _ _ _ _ _)) fun _ f=>?_;refine RB.one 10 (by kernel_rfl) (by kernel_rfl) ?_;refine O.buildSlice f rfl Aa (by decide) (pL f rfl) U108 Z01 rfl rfl (Z11 _ _ _ _ _ _ _) (fun _ hk=>n.trans hk (by simp)) fun _ w5 g4 N o f=>?_;obtain ⟨ag,q,b0,b3,b8⟩:=N.al;have au:=n.size;replace g:=g.k0 q;replace c:=c.mod (T:=[]) (M:=[]) (Mod.o0 (B:=B) q) (by simp);clear N q;replace n:=o;clear o;refine RB.one 11 (by kernel_rfl) (by kernel_rfl) ?_
 refine O.append f rfl Aa (by decide) U108 Zz rfl rfl rfl rfl (c) (Pm ag rfl) (by simp [Value.oneCell']) (by unfold maxLen; omega) (by omega) fun _ w6 A2 c2 v=>?_;have t : Kept y w5 w6:=by rw [r]; exact v.kept
 have KA : Mod [143] [] B w5 w6:=.of_app v c j.fly.loA (by simp);have RX:=v.own;have LX:=v.from j.fly.loA (B:=B) (by omega);have o:=n.trans t (by exact fun x hx _=>hx);refine ⟨o,fun f=>?_⟩;have b9:=t.size;replace g:=g.mod KA (by decide);clear t;replace n:=o;clear o;refine RB.stop (by kernel_rfl) ?_;have av:=n.size;have KM:=Mod.oO (T:=[143]) (M:=[]) (B:=B) (r ▸ n) a5 j.fly.loA (by simp);replace i:=i.step KM (by decide) (by simp) (by omega);replace d:=d.kept n (by assumption);replace a:=a.kept n (by assumption);replace b:=b.kept n (by assumption);replace h:=h.mod KM (by decide) (by simp);clear n;refine rq [12,13] f fun _ f=>?_;refine R.on 14 ?_;refine OT.store f rfl Aa Z31 rfl rfl rfl d (by (simp [Value.cells]; done)) fun _ w7 f ah u=>?_;have ba:=u.size;have KM:=(Mod.of_blk (T:=[111]) (M:=[]) (B:=B) u d j.lop (by simp));replace i:=i.step KM (by decide) (by simp) (by omega);replace a:=a.kn u;replace b:=b.kn u;replace h:=h.mod KM (by decide) (by simp);replace g:=g.mod KM (by decide);replace RX:=RX.mod KM (by decide);replace d:=ah;simp only [Value.cells,List.setIfInBounds_toArray,List.set_cons_zero,List.set_cons_succ,Nat.reduceAdd,Nat.zero_add] at d;clear u;refine R.dn k ?_;refine C.sk fun _ k=>?_;(iterate 2 refine L.s f fun _ f=>?_)
 refine L.cl f (Ji f Tryz.call69) (Hw m Am cm _ false _) ?_;rintro e w8 ⟨q,rfl⟩;refine ⟨_,rfl,fun _ f=>?_⟩;have bb:=q.size;replace i:=i.trans (.o0 q);replace a:=a.z q;replace b:=b.z q;replace h:=h.mod (Mod.o0 (T:=[]) (M:=[]) (B:=B) q) (by decide) (by simp);replace g:=g.mod (Mod.o0 (T:=[]) (M:=[]) (B:=B) q) (by decide);replace RX:=RX.mod (Mod.o0 (T:=[]) (M:=[]) (B:=B) q) (by decide);replace d:=d.z q;clear q;refine L.storeR f Aa Z8 rfl rfl rfl b rfl rfl fun _ w9 f ai l=>?_;have bc:=l.size;replace i:=i.kN l (by simp; omega);replace a:=a.kn l;replace h:=h.mod (Mod.o1 (M:=[]) (B:=B) l b (by omega)) (by decide) (by simp);replace g:=g.mod (Mod.o1 (M:=[]) (B:=B) l b (by omega)) (by decide);replace RX:=RX.mod (Mod.o1 (M:=[]) (B:=B) l b (by omega)) (by decide);replace d:=d.kn l;replace b:=ai;clear l;refine wn k (wp_ret ?_); (try simp only [xt,xb]); refine C.retC f rfl rfl b U39 rfl Z8 ?_;exact x2f j aq ap h4 i d h RX g LX
end Go.Proofs.YtkdeedhjkjffpaaGreat
namespace Go.Proofs.YtkdeedhjkjffpaaGreat
open Go.RowKit Go.Hub
theorem Z51 : (Tryz.prog.info? 39).map (fun i=>(i.zero,i.size,i.bytes)) = some (some (.agg #[(.int .i64 0),(.bool false),(.bool false),(.int .i64 0),(.int .i64 0),(.string ⟨#[]⟩),(.slice none 0 0),(.int .i64 0),(.string ⟨#[]⟩),(.bool false),(.int .i64 0),(.bool false),(.string ⟨#[]⟩),(.slice none 0 0),(.int .i64 0),(.bool false),(.bool false),(.bool false),(.string ⟨#[]⟩),(.slice none 0 0),(.bool false),(.int .i64 0),(.slice none 0 0),(.slice none 0 0)]),24,288):=by kernel_rfl
theorem Z61 : (Tryz.prog.info? 107).map (·.size) = some 1:=by kernel_rfl
theorem Z71 : (Tryz.prog.info? 143).map (·.size) = some 7:=by kernel_rfl
theorem Y3 {w : World} {A : Option Addr} {l : List Fc} {b a k : Nat} {f : Fc} (S : Sl w A l.length 7 (l.flatMap rcell)) (h : A = some ⟨b,a,none⟩) (c : l[k]? = some f) (j : Nat) {v : Value} (d : (rcell f)[j]? = some v) : w.cell? ⟨b,a + (k : Int).toNat * 7 + j,none⟩ = some v:=by
  have p:=(List.getElem?_eq_some_iff.1 c).1;obtain ⟨m,g,e,n,i⟩:=S.2 (by omega);rw [h] at e
  injection e with e
  injection e with e1 e2
  subst e1 e2;have o : j < 7:=(List.getElem?_eq_some_iff.1 d).1;rw [Int.toNat_natCast,Nat.add_assoc];refine i _ v ?_;rw [Ka rcell 7 (fun _=>rfl),show (k * 7 + j) / 7 = k by omega,show (k * 7 + j) % 7 = j by omega,c];exact d
theorem Rs.Like.refl (w : World) (s : Rs) : Rs.Like w s s:=⟨rfl,rfl,rfl,rfl,fun b a=>.inl a⟩
theorem Rs.Like.trans {w w1 : World} {s t u : Rs} (h : Rs.Like w s t) (k : Rs.Like w1 t u) (d : w.heap.size ≤ w1.heap.size) : Rs.Like w s u:=
  ⟨k.im.trans h.im,k.gm.trans h.gm,k.cl.trans h.cl,k.ls.trans h.ls,fun b c=>(k.qa b c).elim (fun a=>h.qa b a) (fun a=>.inr (Nat.le_trans d a))⟩
theorem x5z {l : List Mc} {x : Mc} {r : List Mc} (a : (0 : Int) < (l.length : Nat)) (b : l = x :: r ∨ l = [] ∧ r = []) : l = x :: r:=by
  rcases b with h | h
  · exact h
  rw [h.1] at a; simp at a
theorem RefAt.poppedR {B p : Nat} {w w' : World} {u : Rs} {b : Option Addr} {c : Nat} {r : List Mc} (h : RefAt B w p u) (a : Mod [160] [] B w w') (d : QuR B w' u.q b c r u.lost) (f : Jw w u.QA b) : ∃ v : Rs,RefAt B w' p v ∧ v.abs = { u.abs with wait:=r.map (·.m) } ∧ Rs.Like w u v ∧ v.fly = u.fly:=
  ⟨{ u with wait:=r,QA:=b,qc:=c },⟨h.top.mod a (by decide),h.ids.mod a (by decide) (by simp),d,h.fly.mod a (by decide),h.ls.mod a (by decide),h.got.mod a (by simp),h.ne,h.lop,h.loi,h.lom,h.log,h.tk,h.perm,h.ats,h.idb⟩,rfl,⟨rfl,rfl,rfl,rfl,f⟩,rfl⟩
def Jx (B p : Nat) (s : Rs) (now : Int) (w : World) (e : Ending) (w' : World) : Prop:=
  ∃ s' A c pks,e = .returned (.slice A pks.length c) ∧ RefAt B w' p s' ∧ s'.abs = (drainS s.abs now).1 ∧ pks.map (·.p) = (drainS s.abs now).2 ∧ Rs.Like w s s' ∧ Mod [111,185,143,160] [s.im] B w w' ∧ PkAt B w w' A c pks
section
variable {B p : Nat} {s u v u2 : Rs} {now : Int} {w W : World} {x : Mc} {r : List Mc} {gk : Nat} {pks : List Pc} {A : Option Addr} {c : Nat}
theorem Ip (s : Rs) : s.abs.fly.length = s.fly.length:=by simp [Rs.abs]
theorem Vi (a : u2.abs = Hf v.abs x.m now) (b : v.abs = { u.abs with wait:=r.map (·.m) }) (h : 4 < gk + u.fly.length) : 4 < gk - 1 + u2.fly.length:=by
  have d : u2.abs.fly.length = u.fly.length + 1:=by rw [a,b]; simp [Hf,Rs.abs]
  rw [Ip] at d;omega
theorem Vj (b : u2.abs = Hf v.abs x.m now) (d : v.abs = { u.abs with wait := r.map (·.m) }) (f : u.wait = x :: r) (h : 4 < gk + u.fly.length) (j : u.fly.length < 4) (pks : List Pc) {g : Option Addr} {i : Nat} :
    ((drainN gk u.abs now).1,pks.map (·.p) ++ (drainN gk u.abs now).2) = ((drainN (gk - 1) u2.abs now).1,(pks ++ [(⟨Fh v.abs x.m,g,i⟩ : Pc)]).map (·.p) ++ (drainN (gk - 1) u2.abs now).2):=by
  obtain ⟨k,rfl⟩ : ∃ k,gk = k + 1:=⟨gk - 1,by omega⟩;have a : u.abs.fly.length < 4:=by rw [Ip]; exact j
  have l : u.abs.wait = x.m :: r.map (·.m):=by simp [Rs.abs,f]
  rw [b,d,Nat.add_sub_cancel];rw [drainN,if_pos a,l]
  simp
theorem x6a (d : RefAt B W p u) (i : Rs.Like w s u) (a : drainN 5 s.abs now = ((drainN gk u.abs now).1, pks.map (·.p) ++ (drainN gk u.abs now).2)) (f : PkAt B w W A c pks) (b : Mod [111, 185, 143, 160] [s.im] B w W) (h : ¬ u.fly.length < 4) :
    Jx B p s now w (.returned (.slice A pks.length c)) W:=by
  have g : drainN gk u.abs now = (u.abs,[]):=by
    cases gk with
    | zero=>rfl
    | succ k=>rw [drainN,if_neg (by rw [Ip]; exact h)]
  rw [g,List.append_nil] at a;exact ⟨u,A,c,pks,rfl,d,by rw [drainS,a],by rw [drainS,a],i,b,f⟩
theorem x6b (d : RefAt B W p u) (h : Rs.Like w s u) (hw : u.wait = []) (a : drainN 5 s.abs now = ((drainN gk u.abs now).1, pks.map (·.p) ++ (drainN gk u.abs now).2)) (f : PkAt B w W A c pks) (b : Mod [111, 185, 143, 160] [s.im] B w W) :
    Jx B p s now w (.returned (.slice A pks.length c)) W:=by
  have g : drainN gk u.abs now = (u.abs,[]):=by
    cases gk with
    | zero=>rfl
    | succ k=>
      rw [drainN,show u.abs.wait = [] by simp [Rs.abs,hw]]
      split <;> rfl
  rw [g,List.append_nil] at a;exact ⟨u,A,c,pks,rfl,d,by rw [drainS,a],by rw [drainS,a],h,b,f⟩
end
theorem Pr (B p : Nat) (s : Rs) (now : Int) (w : World) (hS : RefAt B w p s) (hB : B ≤ w.heap.size) : Calls Tryz.prog 86 #[.pointer (some ⟨p,0,none⟩),.int .i64 now] w (Jx B p s now w):=by
 have h : Mod [111,185,143,160] [s.im] B w w:=.refl _ _ _ _;refine Bw Tryz.func86 Tryz.ntmps86 fun _ f=>?_;refine pr f fun _ f=>?_;refine pr f fun _ f=>?_;refine wp_seq_k fun _ k=>?_;refine wp_block ?_;refine C.loop (fun gk a W=>∃ (u : Rs) (Ao : Option Addr) (co : Nat) (n : List Pc),RefAt B W p u ∧ Rs.Like w s u ∧ 4 < gk + u.fly.length ∧ drainN 5 s.abs now = ((drainN gk u.abs now).1,n.map (·.p) ++ (drainN gk u.abs now).2) ∧ PkAt B w W Ao co n ∧ n.length + gk ≤ 5 ∧ Mod [111,185,143,160] [s.im] B w W ∧ Fr 41 a [(0,.pointer (some ⟨p,0,none⟩)),(1,.int .i64 now),(5,.slice Ao n.length co)]) (5) ?_ ?_
 ·exact ⟨s,none,0,[],hS,Rs.Like.refl _ _,by omega,rfl,PkAt.nil _ _ _,by simp,h,f.sub (sx (sx (sx sn)))⟩
 intro au _ w1 hI bm a4;obtain ⟨u,Ao,co,n,HS,hL,a6,hq,i,bu,h,j⟩:=hI
 try clear f
 have BP:=HS.top;have BQ:=HS.qu.top;have b3:=h.size;have bv:=HS.fly.len;refine wp_seq_k fun _ k1=>C.sk fun _ k2=>?_;refine L.s j fun _ f=>?_;(iterate 6 refine L.s f fun _ f=>?_);refine f.sD 14 rfl (fun h0 f=>?_) (fun h0 f=>?_)
 ·have bt:=h0;refine pe f k2 fun _ j=>?_;refine C.sp j (fun h1 j=>?_) (fun h1 j=>?_)
  ·have a7:=h1;refine wp_skip (k1 _ _ ?_);have b:=j.pk [0,1,5,8,9,10,11,12,13,14,15,16,17,18,19,20,21,22,23,24];refine wp_block ?_;refine C.sk fun _ k1=>?_;(iterate 4 refine L.s b fun _ b=>?_);refine L.cl b (Dt b Tryz.call104) (x5x B u.q u.QA u.qc u.wait u.lost _ HS.qu (by omega)) ?_;rintro e w2 ⟨d,x,Aq,cq,r,rfl,HQ,HX,ay,a8⟩;have b1:=x5z a7 ay;obtain ⟨v,HV,aa,a9,b0⟩:=HS.poppedR d HQ a8;have t:=Mod.refl [] [] B w2;refine ⟨_,rfl,fun _ b=>?_⟩;have bc:=d.size;replace h:=h.step d (by decide) (by simp) (by omega);replace BP:=BP.mod d (by decide);replace i:=i.mod d (by decide);clear d;(iterate 3 refine L.s b fun _ b=>?_);refine L.alloc b Aa (by decide) (z:=(.agg #[(.string ⟨#[]⟩),(.slice none 0 0),(.int .i64 0),(.bool false)])) (fun _=>by kernel_rfl) rfl fun _ w3 g2 N b=>?_;obtain ⟨g,d,ab,ba,bd⟩:=N.al;have b4:=h.lo ab;have ag : p ≠ g2:=by have:=BP.lt; omega
   replace h:=h.trans (.o0 d);replace BP:=BP.z d;replace i:=i.mod (Mod.o0 (T:=[]) (M:=[]) (B:=B) d) (by decide);replace t:=t.trans (.o0 d);replace HX:=HX.mod (Mod.o0 (T:=[]) (M:=[]) (B:=B) d) (by decide);clear N d;refine L.storeR b Aa Zw rfl rfl rfl g rfl rfl fun _ w4 b ao l=>?_;have bf:=l.size;replace h:=h.kN l (by simp; omega);replace BP:=BP.kn l;replace i:=i.mod (Mod.o1 (M:=[]) (B:=B) l g (by omega)) (by decide);replace t:=t.kN l (by simp; omega);replace HX:=HX.mod (Mod.o1 (M:=[]) (B:=B) l g (by omega)) (by decide);replace g:=ao;clear l;refine pe b k1 fun _ b=>?_;refine C.region ?_;(iterate 4 refine L.s b fun _ b=>?_);refine L.cl b (Ji b Tryz.call70) (Mr B p v x.m x.A x.c now _ (HV.mod t (by simp)) HX (by omega) (by rw [b0]; omega)) ?_;rintro e w5 ⟨u2,Ap,cp,rfl,y,a5,ax,d,HR⟩;replace d : Mod [111,185,143] [v.im] B _ _:=d;rw [a9.im,hL.im] at d;refine ⟨_,rfl,fun _ b=>?_⟩;have bg:=d.size;replace h:=h.step d (by decide) (by simp) (by omega);replace i:=i.mod d (by decide);replace g:=g.mod d (by decide);clear d;refine L.buildSlice b Aa (by decide) (pL b rfl) U69 Zo rfl rfl (Zn _) fun _ w6 g5 N b=>?_;obtain ⟨aj,d,ac,bb,bh⟩:=N.al;have b5:=h.lo ac;have ad : g2 ≠ g5:=by have:=g.lt; omega
   replace h:=h.trans (.o0 d);replace i:=i.mod (Mod.o0 (T:=[]) (M:=[]) (B:=B) d) (by decide);replace g:=g.z d;replace y:=y.mod (Mod.o0 (T:=[]) (M:=[]) (B:=B) d) (by decide);replace HR:=HR.mod (Mod.o0 (T:=[]) (M:=[]) (B:=B) d) (by decide);clear N d;refine L.append b Aa (by decide) U69 Z51 rfl rfl rfl rfl (i.fr.own) ((show Sl _ _ 1 24 (pcell ⟨Fh v.abs x.m,Ap,cp⟩) from Pm aj rfl)) (I5 _) (by unfold maxLen; omega) (by omega) fun _ w7 A2 c2 a0 b=>?_;have o : Mod [39] [] B w6 w7:=.of_app a0 i.fr.own (fun a ha=>Nat.le_trans hB (i.fr.from a ha)) (by simp);have ap:=i.push (x:=⟨Fh v.abs x.m,Ap,cp⟩) a0 h.size hB HR;replace h:=h.app_new a0 i.fr;have bi:=o.size;replace g:=g.mod o (by decide);replace y:=y.mod o (by decide);clear o;refine L.s b fun _ b=>?_;refine wpList_nil (a4 _ _ (au - 1) ?_ ?_)
   ·omega
   exact ⟨u2,A2,c2,n ++ [⟨Fh v.abs x.m,Ap,cp⟩],y,(hL.trans a9 (by omega)).trans ax (by omega),Vi a5 aa a6,by rw [hq]; exact Vj a5 aa b1 a6 (by omega) n,by simpa using ap,by simp; omega,h,by simpa using b.sub (sx (sx (sx sn)))⟩
  have b8:=h1;refine wp_exit (k _ _ ?_);refine rt j ?_;exact x6b HS hL (List.eq_nil_of_length_eq_zero (by omega)) hq i h
 have bs:=h0;refine L.rn f fun _ f=>?_;refine wn k2 ?_;have f:=f.sub (sv 24 (.bool false) (Ft f [0,1,5,8,9,10,11,12,13,14]));refine C.cF f rfl ?_;refine wp_exit (k _ _ ?_);refine rt f ?_;exact x6a HS hL hq i h (by omega)
theorem y0e (B p : Nat) (s : Rs) (id : Int) (w : World) (n : RefAt B w p s) : Calls Tryz.prog 62 #[.pointer (some ⟨p,0,none⟩),.int .i64 id] w (fun e w'=>w = w' ∧ e = .returned (.int .i64 (Gu (s.fly.map (·.id)) id 0))):=by
 have BP:=n.top;have a0:=n.fly.len;have i:=Sl.oO n.fly.own;refine Bw Tryz.func62 Tryz.ntmps62 fun _ c=>?_;refine pr c fun _ c=>?_;refine wp_seq_k fun _ k1=>?_;refine pr c fun _ c=>?_;refine wp_block ?_;refine C.loop (fun v a W=>w = W ∧ ∃ k : Nat,k + v = s.fly.length ∧ Gu (s.fly.map (·.id)) id 0 = Gu ((s.fly.drop k).map (·.id)) id k ∧ Fr 26 a [(0,.pointer (some ⟨p,0,none⟩)),(1,.int .i64 id),(5,.int .i64 k)]) (s.fly.length) ?_ ?_
 ·exact ⟨rfl,0,by omega,rfl,c.sub (sx (sx (sx sn)))⟩
 intro l _ w1 y u j;obtain ⟨z,k,hk,h,d⟩:=y;subst z
 try clear c
 refine wp_seq_k fun _ q=>?_;refine pr d fun _ c=>?_;refine c.sD 12 rfl (fun r c=>?_) (fun r c=>?_)
 ·obtain ⟨d,o⟩ : ∃ f,s.fly[k]? = some f:=⟨s.fly[k]'(by omega),List.getElem?_eq_getElem _⟩;obtain ⟨b,a3,x⟩:=i.addr (by omega);refine C.cT c rfl ?_;refine wp_skip (q _ _ ?_);have d:=c.pk [0,1,5,6,7,8,9,10,11,12];refine wp_seq_k fun _ q=>?_;refine wp_block ?_;refine C.sk fun _ k3=>?_;(iterate 7 refine L.s d fun _ d=>?_);refine L.lo d (Y3 i x o 0 rfl) fun _ d=>?_;refine pe d k3 fun _ d=>?_;refine C.sp d (fun m d=>?_) (fun m d=>?_)
  ·have g:=m;refine rt d ?_;exact ⟨rfl,by rw [h,y0a o g]⟩
  have g:=m;refine wp_skip (q _ _ ?_);refine C.region ?_;(iterate 3 refine L.s d fun _ d=>?_);refine wpList_nil (j _ _ (l - 1) ?_ ?_)
  ·omega
  exact ⟨rfl,k + 1,by omega,h.trans (x5s o g),d.sub (sx (sx (sx sn)))⟩
 have t:=r;refine C.cF c rfl ?_;refine wp_exit (k1 _ _ ?_);have c:=c.sub sn;refine rt c ?_;exact ⟨rfl,by rw [h,List.drop_of_length_le (by omega)]; rfl⟩
end Go.Proofs.YtkdeedhjkjffpaaGreat
namespace Go.Proofs.YtkdeedhjkjffpaaGreat
open Go.RowKit Go.Hub
theorem Hh {B q : Nat} {w w1 o : World} {A : Option Addr} {c : Nat} {l : List Mc} {b : Int} {j : List Nat} (t : QuR B w q A c l b) (m : Mod [] [] B w w1) (f : j = q :: (Value.slice A l.length c).ownBlock.toList) (k : Kept j w1 o) : QFar w o A:=fun x n u i=>by
  have p : w1.heap[x]? = w.heap[x]?:=m.block x n (.inr ⟨(fun h=>by obtain ⟨_,_,_,_,d⟩:=h; cases d),(fun s=>by cases s.2)⟩)
  refine (k.block x (Nat.lt_of_lt_of_le n m.size) ?_).trans p
  rw [f]
  intro g
  rcases List.mem_cons.1 g with e | g
  · subst e
    obtain ⟨v,e,y,r,d⟩:=u
    have a:=t.top
    unfold Blk at a
    rw [r] at a
    injection a with a
    injection a with _ he _
    rw [he] at d
    exact absurd d (by decide)
  exact i x ((Ag _ _ _ _).1 (by simpa using g)) rfl
def Hi (T : List TypeId) (B p : Nat) (s : Rs) (r : SA × List Pa) (w : World) (e : Ending) (w' : World) : Prop:=
  ∃ s' A c pks,e = .returned (.slice A pks.length c) ∧ RefAt B w' p s' ∧ (s'.abs,pks.map (·.p)) = r ∧ Rs.Like w s s' ∧ Mod T [s.im,s.gm] B w w' ∧ PkAt B w w' A c pks ∧ pks.length ≤ 10
def x2g (B p : Nat) (s : Rs) (r : SA × List Pa) (w : World) (e : Ending) (w' : World) : Prop:=Hi [111,185,143,160,58] B p s r w e w' ∧ QFar w w' s.QA
theorem RefAt.p_ne_q {B p : Nat} {w : World} {s : Rs} (h : RefAt B w p s) : p = s.q → False:=fun e=>by
  have b:=h.top
  rw [e] at b
  have a:=h.qu.top
  unfold Blk at b a
  rw [b] at a
  injection a with a
  injection a with _ he _
  exact absurd he (by decide)
section
variable {s : Rs} {m : Ms} {on : Bool} {now : Int}
theorem Ps (a : ¬ (m.qos = 0 ∧ on = true)) (g : ¬ m.qos < 1) (h : ¬ 2 < m.qos) (b : on = true) (i : (s.fly.length : Int) < 4) (c : (s.wait.length : Int) = 0) : sendS s.abs m on now = (Hf s.abs m now,[Fh s.abs m]):=by
  have d : s.abs.fly.length < 4:=by rw [Ip]; omega
  have f : s.abs.wait.length = 0:=by simp [Rs.abs]; simpa using c
  rw [sendS,if_neg a,if_neg (by omega),if_pos ⟨b,d,f⟩]
theorem Fy (b : ¬ (m.qos = 0 ∧ on = true)) (f : ¬ m.qos < 1) (g : ¬ 2 < m.qos) (h : ¬ (on = true ∧ (s.fly.length : Int) < 4 ∧ (s.wait.length : Int) = 0)) : sendS s.abs m on now = (Pj s.abs m,[]):=by
  rw [sendS,if_neg b,if_neg (by omega),if_neg ?_];rintro ⟨c,d,a⟩;rw [Ip] at d;exact h ⟨c,by omega,by simp [Rs.abs] at a; simp [a]⟩
theorem Gm {B p : Nat} {w W : World} {c : Option Addr} {f : Nat} {d : List Mc} (a : RefAt B w p s) (i : Mod [111, 185, 143, 160, 58] [s.im, s.gm] B w W) (b : Mod [160, 58] [] B w W) (g : Blk W p 111 s.cells) (j : QuR B W s.q c f d (if s.wait.length < 8 then s.lost else s.lost + 1)) (k : d.map (·.m) = if s.wait.length < 8 then s.wait.map (·.m) ++ [m] else s.wait.map (·.m)) (l : Jw w s.QA c)
    (h : sendS s.abs m on now = (Pj s.abs m,[])) : Hi [111,185,143,160,58] B p s (sendS s.abs m on now) w (.returned (.slice none 0 0)) W:=by
  refine ⟨{ s with wait:=d,QA:=c,qc:=f,lost:=if s.wait.length < 8 then s.lost else s.lost + 1 },none,0,[],rfl,⟨g,a.ids.mod b (by decide) (by simp),j,a.fly.mod b (by decide),a.ls.mod b (by decide),a.got.mod b (by simp),a.ne,a.lop,a.loi,a.lom,a.log,a.tk,a.perm,a.ats,a.idb⟩,?_,⟨rfl,rfl,rfl,rfl,l⟩,i,PkAt.nil _ _ _,by simp⟩;rw [h];unfold Pj Rs.abs;simp only [List.length_map]
  split <;> simp_all
end
theorem Mt (B p : Nat) (s : Rs) (m : Ms) (Am : Option Addr) (cm : Nat) (on : Bool) (now : Int) (w : World) (u : RefAt B w p s) (HP : Pay B w Am m.pay) (hB : B ≤ w.heap.size) (hl : 0 ≤ s.lost ∧ s.lost ≤ 1000000000) : Calls Tryz.prog 38 #[.pointer (some ⟨p,0,none⟩),.agg #[.string m.tp,.slice Am m.pay.length cm,.int .i64 m.qos,.bool m.ret],.bool on,.int .i64 now] w (x2g B p s (sendS s.abs m on now) w):=by
 have HK : Mod [111,185,143,160,58] [s.im,s.gm] B w w:=.refl _ _ _ _;have j : Mod [] [] B w w:=.refl _ _ _ _;have y : Mod [160,58] [] B w w:=.refl _ _ _ _;have BP:=u.top;have BQ:=u.qu.top;have cj:=u.fly.len;have ck:=u.qu.len;have i : QFar w w s.QA:=QFar.refl _ _;refine Bw Tryz.func38 Tryz.ntmps38 fun a f=>?_;refine C.sk fun _ k1=>?_;refine L.box f Aa (by decide) rfl rfl fun a w1 g0 N f=>?_;obtain ⟨n,g,bv,ch,ci⟩:=N.al;have ap:=HK.lo bv;have bw : p ≠ g0:=by have:=BP.lt; omega
 have nes.q_g0 : s.q ≠ g0:=by have:=BQ.lt; omega
 replace HK:=HK.trans (.o0 g);replace j:=j.trans (.o0 g);replace y:=y.trans (.o0 g);replace BP:=BP.z g;replace BQ:=BQ.z g;replace HP:=HP.mod (Mod.o0 (T:=[]) (M:=[]) (B:=B) g) (by decide);replace i:=i.mod (Mod.o0 (T:=[]) (M:=[]) (B:=B) g) (by decide);clear N g;refine L.s f fun a4 f=>?_;refine wn k1 ?_;refine wp_seq_k fun _ k1=>?_;refine wp_block ?_;refine pr f fun _ f=>?_;refine C.sp f (fun h0 f=>?_) (fun h0 f=>?_)
 ·have aj:=h0;refine pr f fun _ c=>?_;refine C.sb c (fun h1 c=>?_) (fun h1 c=>?_)
  ·have ce:=h1;refine C.sk fun _ k2=>?_;refine L.s c fun _ d=>?_;refine L.cl d (Ji d Tryz.call69) (Hw m Am cm 0 false _) ?_;rintro e w2 ⟨g,rfl⟩;refine ⟨_,rfl,fun _ d=>?_⟩;have af:=g.size;replace HK:=HK.trans (.o0 g);replace j:=j.trans (.o0 g);replace y:=y.trans (.o0 g);replace BP:=BP.z g;replace BQ:=BQ.z g;replace HP:=HP.mod (Mod.o0 (T:=[]) (M:=[]) (B:=B) g) (by decide);replace i:=i.mod (Mod.o0 (T:=[]) (M:=[]) (B:=B) g) (by decide);replace n:=n.z g;clear g;refine L.buildSlice d Aa (by decide) (pL d rfl) U69 Zo rfl rfl (Zn ⟨D0 m 0 false,Am,cm⟩) fun _ w3 g2 N d=>?_;have b4:=N.own (k:=1) (size:=24) rfl (by decide);obtain ⟨bq,g,av,bf,ag⟩:=N.al;have aq:=HK.lo av;have bx : p ≠ g2:=by have:=BP.lt; omega
   have nes.q_g2 : s.q ≠ g2:=by have:=BQ.lt; omega
   have aw : g0 ≠ g2:=by have:=n.lt; omega
   replace HK:=HK.trans (.o0 g);replace j:=j.trans (.o0 g);replace y:=y.trans (.o0 g);replace BP:=BP.z g;replace BQ:=BQ.z g;replace HP:=HP.mod (Mod.o0 (T:=[]) (M:=[]) (B:=B) g) (by decide);replace i:=i.mod (Mod.o0 (T:=[]) (M:=[]) (B:=B) g) (by decide);replace n:=n.z g;clear N g;refine re d k2 ?_;exact ⟨⟨s,_,_,[⟨D0 m 0 false,Am,cm⟩],rfl,u.mod j (by simp),by rw [sendS,if_pos ⟨aj,ce⟩]; rfl,Rs.Like.refl _ _,HK,Pp b4 aq HP,by simp⟩,i⟩
  have au:=h1;refine wp_skip (k1 _ _ ?_);refine rt c ?_;exact ⟨⟨s,none,0,[],rfl,u.mod j (by simp),by rw [Su (fun h=>by rw [au] at h; cases h.2) (by omega)]; rfl,Rs.Like.refl _ _,HK,PkAt.nil _ _ _,by simp⟩,i⟩
 have aj:=h0;refine C.sk fun _ k2=>?_;(iterate 4 refine L.s f fun _ f=>?_);refine f.sD 21 rfl (fun h2 f=>?_) (fun h2 f=>?_)
 ·have c3:=h2;refine L.rn f fun _ c=>?_;refine wn k2 ?_;have c:=c.sub (sv 17 (.bool true) (Ft c [0,2,3,5,8]));refine C.cT c rfl ?_;refine wp_seq_k fun _ k3=>C.sk fun _ k4=>?_;(iterate 2 refine L.s c fun _ c=>?_);refine c.split 27 rfl (fun h3 c=>?_) (fun h3 c=>?_)
  ·have b7:=h3;refine L.s c fun _ d=>?_;(iterate 7 refine L.s d fun _ d=>?_);refine d.sD 35 rfl (fun h4 d=>?_) (fun h4 d=>?_)
   ·have bl:=h4;refine pe d k4 fun _ o=>?_;refine C.sp o (fun h5 o=>?_) (fun h5 o=>?_)
    ·have hz:=h5;refine C.sk fun _ k5=>?_;refine L.s o fun _ a3=>?_;(iterate 2 refine L.s a3 fun _ a3=>?_);refine L.cl a3 (Ji a3 Tryz.call70) (Mr B p s m Am cm now _ (u.mod j (by simp)) HP (by omega) (by omega)) ?_;rintro e w2 ⟨u2,Ap,cp,rfl,ax,bk,ay,g,HR⟩;replace ay:=(Rs.Like.refl w s).trans ay HK.size;refine ⟨_,rfl,fun _ a3=>?_⟩;have af:=g.size;replace HK:=HK.step g (by decide) (by simp) (by omega);replace i:=i.mod g (by decide);replace n:=n.mod g (by decide);clear g;refine L.buildSlice a3 Aa (by decide) (pL a3 rfl) U69 Zo rfl rfl (Zn ⟨Fh s.abs m,Ap,cp⟩) fun _ w3 g2 N a3=>?_;have b4:=N.own (k:=1) (size:=24) rfl (by decide);obtain ⟨bq,g,av,bf,ag⟩:=N.al;have aq:=HK.lo av;have aw : g0 ≠ g2:=by have:=n.lt; omega
     replace HK:=HK.trans (.o0 g);replace i:=i.mod (Mod.o0 (T:=[]) (M:=[]) (B:=B) g) (by decide);replace n:=n.z g;replace ax:=ax.mod (Mod.o0 (T:=[]) (M:=[]) (B:=B) g) (by decide);replace HR:=HR.mod (Mod.o0 (T:=[]) (M:=[]) (B:=B) g) (by decide);clear N g;refine re a3 k5 ?_;exact ⟨⟨u2,_,_,[⟨Fh s.abs m,Ap,cp⟩],rfl,ax,by rw [Ps (fun h=>aj h.1) (by omega) (by omega) b7 bl hz,bk]; rfl,ay,HK,Pp b4 aq HR,by simp⟩,i⟩
    have cd:=h5;refine wp_skip (k3 _ _ ?_);have a5 : on = true → (s.fly.length : Int) < 4 → (s.wait.length : Int) = 0 → False:=by intro a9 a a4; omega
    obtain ⟨MM,r⟩ : ∃ MM,MM = s.q :: (Value.slice s.QA s.wait.length s.qc).ownBlock.toList:=⟨_,rfl⟩;have b8 : p ∉ MM:=by rw [r]; exact fun hx=>(List.mem_cons.1 hx).elim u.p_ne_q (Bc u.qu.own u.top (by decide))
    have ar : g0 ∉ MM:=by rw [r]; exact fun hx=>(List.mem_cons.1 hx).elim (fun e=>by have:=u.qu.top.lt; omega) (F3 u.qu.own ap)
    refine R.begin (S:=fun W=>Kept MM w1 W) (by kernel_rfl) (by exact (Kept.refl _ _).drewN 1) ?_;have s1 : Kept MM w1 (w1.drewN 1):=(Kept.refl _ _).drewN 1;have l:=dk w1 1;obtain ⟨w2,v⟩ : ∃ W,W = w1.drewN 1:=⟨_,rfl⟩;rw [← v] at s1 l ⊢;clear v;have af:=s1.size;replace j:=j.trans (.o0 l);replace HP:=HP.k0 l;replace i:=i.mod (T:=[]) (M:=[]) (Mod.o0 (B:=B) l) (by simp);refine rq [0,1,2] o fun _ o=>?_;refine R.t 3 o rfl s1 (fun W hW=>(E.load o U107 rfl rfl ((BP.kept hW (by assumption)).cl rfl))) fun _ o=>?_;refine R.t 4 o rfl s1 (fun W hW=>(E.loadB o U58 rfl Zw rfl (n.kept hW (by assumption)) rfl)) fun _ o=>?_;refine R.cl 5 o rfl (Bm o Tryz.call71) (Gl B s.q s.QA s.qc s.wait s.lost m Am cm _ (u.qu.mod j (by decide)) HP (by omega) hl) ?_;rintro e w3 ⟨km,g,rfl,A2,c2,l2,HQ,ak,a0⟩;rw [← r] at g;have a6 : Jw w s.QA A2:=fun b hb=>(a0 b hb).imp id (Nat.le_trans j.size);have ah : QFar w w3 s.QA:=Hh u.qu j r g;replace s2:=s1.trans g (by exact fun x hx _=>hx);refine ⟨_,rfl,s2,fun _ o=>?_⟩;have ag:=g.size;clear g;have ao:=s2.size;have KM:=km.mono (B':=B) (T':=[160,58]) (M':=[]) (by decide) (by simp) (Nat.le_refl _);replace KM:=(Mod.o0 l).trans KM;have i:=ah;replace HK:=HK.step KM (by decide) (by simp) (by omega);replace y:=y.step KM (by decide) (by simp) (by omega)
    replace BP:=BP.kept s2 (by assumption);replace n:=n.kept s2 (by assumption);clear s2;refine R.dn k1 ?_;refine rt o ?_;exact ⟨Gm u HK y BP HQ ak a6 (Fy (fun h=>aj h.1) (by omega) (by omega) (fun h=>a5 h.1 h.2.1 h.2.2)),i⟩
   have cc:=h4;refine L.rn d fun _ d=>?_;refine wn k4 ?_;have d:=d.sub (sv 45 (.bool false) (Ft d [0,3,5,8]));refine C.cF d rfl ?_;refine wp_skip (k3 _ _ ?_);have a5 : on = true → (s.fly.length : Int) < 4 → (s.wait.length : Int) = 0 → False:=by intro a9 a a4; omega
   obtain ⟨MM,r⟩ : ∃ MM,MM = s.q :: (Value.slice s.QA s.wait.length s.qc).ownBlock.toList:=⟨_,rfl⟩;have b8 : p ∉ MM:=by rw [r]; exact fun hx=>(List.mem_cons.1 hx).elim u.p_ne_q (Bc u.qu.own u.top (by decide))
   have ar : g0 ∉ MM:=by rw [r]; exact fun hx=>(List.mem_cons.1 hx).elim (fun e=>by have:=u.qu.top.lt; omega) (F3 u.qu.own ap)
   refine R.begin (S:=fun W=>Kept MM w1 W) (by kernel_rfl) (by exact (Kept.refl _ _).drewN 1) ?_;have s1 : Kept MM w1 (w1.drewN 1):=(Kept.refl _ _).drewN 1;have l:=dk w1 1;obtain ⟨w2,v⟩ : ∃ W,W = w1.drewN 1:=⟨_,rfl⟩;rw [← v] at s1 l ⊢;clear v;have af:=s1.size;replace j:=j.trans (.o0 l);replace HP:=HP.k0 l;replace i:=i.mod (T:=[]) (M:=[]) (Mod.o0 (B:=B) l) (by simp);refine rq [0,1,2] d fun _ d=>?_;refine R.t 3 d rfl s1 (fun W hW=>(E.load d U107 rfl rfl ((BP.kept hW (by assumption)).cl rfl))) fun _ d=>?_;refine R.t 4 d rfl s1 (fun W hW=>(E.loadB d U58 rfl Zw rfl (n.kept hW (by assumption)) rfl)) fun _ d=>?_;refine R.cl 5 d rfl (Bm d Tryz.call71) (Gl B s.q s.QA s.qc s.wait s.lost m Am cm _ (u.qu.mod j (by decide)) HP (by omega) hl) ?_;rintro e w3 ⟨km,g,rfl,A2,c2,l2,HQ,ak,a0⟩;rw [← r] at g;have a6 : Jw w s.QA A2:=fun b hb=>(a0 b hb).imp id (Nat.le_trans j.size);have ah : QFar w w3 s.QA:=Hh u.qu j r g;replace s2:=s1.trans g (by exact fun x hx _=>hx);refine ⟨_,rfl,s2,fun _ d=>?_⟩;have ag:=g.size;clear g;have ao:=s2.size;have KM:=km.mono (B':=B) (T':=[160,58]) (M':=[]) (by decide) (by simp) (Nat.le_refl _);replace KM:=(Mod.o0 l).trans KM;have i:=ah;replace HK:=HK.step KM (by decide) (by simp) (by omega);replace y:=y.step KM (by decide) (by simp) (by omega)
   replace BP:=BP.kept s2 (by assumption);replace n:=n.kept s2 (by assumption);clear s2;refine R.dn k1 ?_;refine rt d ?_;exact ⟨Gm u HK y BP HQ ak a6 (Fy (fun h=>aj h.1) (by omega) (by omega) (fun h=>a5 h.1 h.2.1 h.2.2)),i⟩
  have au:=h3;refine L.rn c fun _ c=>?_;refine wn k4 ?_;have c:=c.sub (sv 45 (.bool false) (Ft c [0,3,5,8]));refine C.cF c rfl ?_;refine wp_skip (k3 _ _ ?_);have a5 : on = true → (s.fly.length : Int) < 4 → (s.wait.length : Int) = 0 → False:=by intro a9 a a4; (rw [au] at a9; cases a9)
  obtain ⟨MM,r⟩ : ∃ MM,MM = s.q :: (Value.slice s.QA s.wait.length s.qc).ownBlock.toList:=⟨_,rfl⟩;have b8 : p ∉ MM:=by rw [r]; exact fun hx=>(List.mem_cons.1 hx).elim u.p_ne_q (Bc u.qu.own u.top (by decide))
  have ar : g0 ∉ MM:=by rw [r]; exact fun hx=>(List.mem_cons.1 hx).elim (fun e=>by have:=u.qu.top.lt; omega) (F3 u.qu.own ap)
  refine R.begin (S:=fun W=>Kept MM w1 W) (by kernel_rfl) (by exact (Kept.refl _ _).drewN 1) ?_;have s1 : Kept MM w1 (w1.drewN 1):=(Kept.refl _ _).drewN 1;have l:=dk w1 1;obtain ⟨w2,v⟩ : ∃ W,W = w1.drewN 1:=⟨_,rfl⟩;rw [← v] at s1 l ⊢;clear v;have af:=s1.size;replace j:=j.trans (.o0 l);replace HP:=HP.k0 l;replace i:=i.mod (T:=[]) (M:=[]) (Mod.o0 (B:=B) l) (by simp);refine rq [0,1,2] c fun _ c=>?_;refine R.t 3 c rfl s1 (fun W hW=>(E.load c U107 rfl rfl ((BP.kept hW (by assumption)).cl rfl))) fun _ c=>?_;refine R.t 4 c rfl s1 (fun W hW=>(E.loadB c U58 rfl Zw rfl (n.kept hW (by assumption)) rfl)) fun _ c=>?_;refine R.cl 5 c rfl (Bm c Tryz.call71) (Gl B s.q s.QA s.qc s.wait s.lost m Am cm _ (u.qu.mod j (by decide)) HP (by omega) hl) ?_;rintro e w3 ⟨km,g,rfl,A2,c2,l2,HQ,ak,a0⟩;rw [← r] at g;have a6 : Jw w s.QA A2:=fun b hb=>(a0 b hb).imp id (Nat.le_trans j.size);have ah : QFar w w3 s.QA:=Hh u.qu j r g;replace s2:=s1.trans g (by exact fun x hx _=>hx);refine ⟨_,rfl,s2,fun _ c=>?_⟩;have ag:=g.size;clear g;have ao:=s2.size;have KM:=km.mono (B':=B) (T':=[160,58]) (M':=[]) (by decide) (by simp) (Nat.le_refl _);replace KM:=(Mod.o0 l).trans KM;have i:=ah;replace HK:=HK.step KM (by decide) (by simp) (by omega);replace y:=y.step KM (by decide) (by simp) (by omega)
  replace BP:=BP.kept s2 (by assumption);replace n:=n.kept s2 (by assumption);clear s2;refine R.dn k1 ?_;refine rt c ?_;exact ⟨Gm u HK y BP HQ ak a6 (Fy (fun h=>aj h.1) (by omega) (by omega) (fun h=>a5 h.1 h.2.1 h.2.2)),i⟩
 have c3:=h2;refine pe f k2 fun _ f=>?_;refine C.sp f (fun h6 f=>?_) (fun h6 f=>?_)
 ·have c4:=h6;refine wp_seq_k fun _ k2=>C.sk fun _ k3=>?_;refine L.s f fun _ c=>?_;refine L.s c fun _ c=>?_;refine c.split 27 rfl (fun h7 c=>?_) (fun h7 c=>?_)
  ·have b7:=h7;refine L.s c fun _ d=>?_;(iterate 7 refine L.s d fun _ d=>?_);refine d.sD 35 rfl (fun h8 d=>?_) (fun h8 d=>?_)
   ·have bl:=h8;refine pe d k3 fun _ o=>?_;refine C.sp o (fun h9 o=>?_) (fun h9 o=>?_)
    ·have hz:=h9;refine C.sk fun _ k4=>?_;refine L.s o fun _ a3=>?_;(iterate 2 refine L.s a3 fun _ a3=>?_);refine L.cl a3 (Ji a3 Tryz.call70) (Mr B p s m Am cm now _ (u.mod j (by simp)) HP (by omega) (by omega)) ?_;rintro e w2 ⟨u2,Ap,cp,rfl,ax,bk,ay,g,HR⟩;replace ay:=(Rs.Like.refl w s).trans ay HK.size;refine ⟨_,rfl,fun _ a3=>?_⟩;have af:=g.size;replace HK:=HK.step g (by decide) (by simp) (by omega);replace i:=i.mod g (by decide);replace n:=n.mod g (by decide);clear g;refine L.buildSlice a3 Aa (by decide) (pL a3 rfl) U69 Zo rfl rfl (Zn ⟨Fh s.abs m,Ap,cp⟩) fun _ w3 g2 N a3=>?_;have b4:=N.own (k:=1) (size:=24) rfl (by decide);obtain ⟨bq,g,av,bf,ag⟩:=N.al;have aq:=HK.lo av;have aw : g0 ≠ g2:=by have:=n.lt; omega
     replace HK:=HK.trans (.o0 g);replace i:=i.mod (Mod.o0 (T:=[]) (M:=[]) (B:=B) g) (by decide);replace n:=n.z g;replace ax:=ax.mod (Mod.o0 (T:=[]) (M:=[]) (B:=B) g) (by decide);replace HR:=HR.mod (Mod.o0 (T:=[]) (M:=[]) (B:=B) g) (by decide);clear N g;refine re a3 k4 ?_;exact ⟨⟨u2,_,_,[⟨Fh s.abs m,Ap,cp⟩],rfl,ax,by rw [Ps (fun h=>aj h.1) (by omega) (by omega) b7 bl hz,bk]; rfl,ay,HK,Pp b4 aq HR,by simp⟩,i⟩
    have cd:=h9;refine wp_skip (k2 _ _ ?_);have a5 : on = true → (s.fly.length : Int) < 4 → (s.wait.length : Int) = 0 → False:=by intro a9 a a4; omega
    obtain ⟨MM,r⟩ : ∃ MM,MM = s.q :: (Value.slice s.QA s.wait.length s.qc).ownBlock.toList:=⟨_,rfl⟩;have b8 : p ∉ MM:=by rw [r]; exact fun hx=>(List.mem_cons.1 hx).elim u.p_ne_q (Bc u.qu.own u.top (by decide))
    have ar : g0 ∉ MM:=by rw [r]; exact fun hx=>(List.mem_cons.1 hx).elim (fun e=>by have:=u.qu.top.lt; omega) (F3 u.qu.own ap)
    refine R.begin (S:=fun W=>Kept MM w1 W) (by kernel_rfl) (by exact (Kept.refl _ _).drewN 1) ?_;have s1 : Kept MM w1 (w1.drewN 1):=(Kept.refl _ _).drewN 1;have l:=dk w1 1;obtain ⟨w2,v⟩ : ∃ W,W = w1.drewN 1:=⟨_,rfl⟩;rw [← v] at s1 l ⊢;clear v;have af:=s1.size;replace j:=j.trans (.o0 l);replace HP:=HP.k0 l;replace i:=i.mod (T:=[]) (M:=[]) (Mod.o0 (B:=B) l) (by simp);refine rq [0,1,2] o fun _ o=>?_;refine R.t 3 o rfl s1 (fun W hW=>(E.load o U107 rfl rfl ((BP.kept hW (by assumption)).cl rfl))) fun _ o=>?_;refine R.t 4 o rfl s1 (fun W hW=>(E.loadB o U58 rfl Zw rfl (n.kept hW (by assumption)) rfl)) fun _ o=>?_;refine R.cl 5 o rfl (Bm o Tryz.call71) (Gl B s.q s.QA s.qc s.wait s.lost m Am cm _ (u.qu.mod j (by decide)) HP (by omega) hl) ?_;rintro e w3 ⟨km,g,rfl,A2,c2,l2,HQ,ak,a0⟩;rw [← r] at g;have a6 : Jw w s.QA A2:=fun b hb=>(a0 b hb).imp id (Nat.le_trans j.size);have ah : QFar w w3 s.QA:=Hh u.qu j r g;replace s2:=s1.trans g (by exact fun x hx _=>hx);refine ⟨_,rfl,s2,fun _ o=>?_⟩;have ag:=g.size;clear g;have ao:=s2.size;have KM:=km.mono (B':=B) (T':=[160,58]) (M':=[]) (by decide) (by simp) (Nat.le_refl _);replace KM:=(Mod.o0 l).trans KM;have i:=ah;replace HK:=HK.step KM (by decide) (by simp) (by omega);replace y:=y.step KM (by decide) (by simp) (by omega)
    replace BP:=BP.kept s2 (by assumption);replace n:=n.kept s2 (by assumption);clear s2;refine R.dn k1 ?_;refine rt o ?_;exact ⟨Gm u HK y BP HQ ak a6 (Fy (fun h=>aj h.1) (by omega) (by omega) (fun h=>a5 h.1 h.2.1 h.2.2)),i⟩
   have cc:=h8;refine L.rn d fun _ d=>?_;refine wn k3 ?_;have d:=d.sub (sv 45 (.bool false) (Ft d [0,3,5,8]));refine C.cF d rfl ?_;refine wp_skip (k2 _ _ ?_);have a5 : on = true → (s.fly.length : Int) < 4 → (s.wait.length : Int) = 0 → False:=by intro a9 a a4; omega
   obtain ⟨MM,r⟩ : ∃ MM,MM = s.q :: (Value.slice s.QA s.wait.length s.qc).ownBlock.toList:=⟨_,rfl⟩;have b8 : p ∉ MM:=by rw [r]; exact fun hx=>(List.mem_cons.1 hx).elim u.p_ne_q (Bc u.qu.own u.top (by decide))
   have ar : g0 ∉ MM:=by rw [r]; exact fun hx=>(List.mem_cons.1 hx).elim (fun e=>by have:=u.qu.top.lt; omega) (F3 u.qu.own ap)
   refine R.begin (S:=fun W=>Kept MM w1 W) (by kernel_rfl) (by exact (Kept.refl _ _).drewN 1) ?_;have s1 : Kept MM w1 (w1.drewN 1):=(Kept.refl _ _).drewN 1;have l:=dk w1 1;obtain ⟨w2,v⟩ : ∃ W,W = w1.drewN 1:=⟨_,rfl⟩;rw [← v] at s1 l ⊢;clear v;have af:=s1.size;replace j:=j.trans (.o0 l);replace HP:=HP.k0 l;replace i:=i.mod (T:=[]) (M:=[]) (Mod.o0 (B:=B) l) (by simp);refine rq [0,1,2] d fun _ d=>?_;refine R.t 3 d rfl s1 (fun W hW=>(E.load d U107 rfl rfl ((BP.kept hW (by assumption)).cl rfl))) fun _ d=>?_;refine R.t 4 d rfl s1 (fun W hW=>(E.loadB d U58 rfl Zw rfl (n.kept hW (by assumption)) rfl)) fun _ d=>?_;refine R.cl 5 d rfl (Bm d Tryz.call71) (Gl B s.q s.QA s.qc s.wait s.lost m Am cm _ (u.qu.mod j (by decide)) HP (by omega) hl) ?_;rintro e w3 ⟨km,g,rfl,A2,c2,l2,HQ,ak,a0⟩;rw [← r] at g;have a6 : Jw w s.QA A2:=fun b hb=>(a0 b hb).imp id (Nat.le_trans j.size);have ah : QFar w w3 s.QA:=Hh u.qu j r g;replace s2:=s1.trans g (by exact fun x hx _=>hx);refine ⟨_,rfl,s2,fun _ d=>?_⟩;have ag:=g.size;clear g;have ao:=s2.size;have KM:=km.mono (B':=B) (T':=[160,58]) (M':=[]) (by decide) (by simp) (Nat.le_refl _);replace KM:=(Mod.o0 l).trans KM;have i:=ah;replace HK:=HK.step KM (by decide) (by simp) (by omega);replace y:=y.step KM (by decide) (by simp) (by omega)
   replace BP:=BP.kept s2 (by assumption);replace n:=n.kept s2 (by assumption);clear s2;refine R.dn k1 ?_;refine rt d ?_;exact ⟨Gm u HK y BP HQ ak a6 (Fy (fun h=>aj h.1) (by omega) (by omega) (fun h=>a5 h.1 h.2.1 h.2.2)),i⟩
  have au:=h7;refine L.rn c fun _ c=>?_;refine wn k3 ?_;have c:=c.sub (sv 45 (.bool false) (Ft c [0,3,5,8]));refine C.cF c rfl ?_;refine wp_skip (k2 _ _ ?_);have a5 : on = true → (s.fly.length : Int) < 4 → (s.wait.length : Int) = 0 → False:=by intro a9 a a4; (rw [au] at a9; cases a9)
  obtain ⟨MM,r⟩ : ∃ MM,MM = s.q :: (Value.slice s.QA s.wait.length s.qc).ownBlock.toList:=⟨_,rfl⟩;have b8 : p ∉ MM:=by rw [r]; exact fun hx=>(List.mem_cons.1 hx).elim u.p_ne_q (Bc u.qu.own u.top (by decide))
  have ar : g0 ∉ MM:=by rw [r]; exact fun hx=>(List.mem_cons.1 hx).elim (fun e=>by have:=u.qu.top.lt; omega) (F3 u.qu.own ap)
  refine R.begin (S:=fun W=>Kept MM w1 W) (by kernel_rfl) (by exact (Kept.refl _ _).drewN 1) ?_;have s1 : Kept MM w1 (w1.drewN 1):=(Kept.refl _ _).drewN 1;have l:=dk w1 1;obtain ⟨w2,v⟩ : ∃ W,W = w1.drewN 1:=⟨_,rfl⟩;rw [← v] at s1 l ⊢;clear v;have af:=s1.size;replace j:=j.trans (.o0 l);replace HP:=HP.k0 l;replace i:=i.mod (T:=[]) (M:=[]) (Mod.o0 (B:=B) l) (by simp);refine rq [0,1,2] c fun _ c=>?_;refine R.t 3 c rfl s1 (fun W hW=>(E.load c U107 rfl rfl ((BP.kept hW (by assumption)).cl rfl))) fun _ c=>?_;refine R.t 4 c rfl s1 (fun W hW=>(E.loadB c U58 rfl Zw rfl (n.kept hW (by assumption)) rfl)) fun _ c=>?_;refine R.cl 5 c rfl (Bm c Tryz.call71) (Gl B s.q s.QA s.qc s.wait s.lost m Am cm _ (u.qu.mod j (by decide)) HP (by omega) hl) ?_;rintro e w3 ⟨km,g,rfl,A2,c2,l2,HQ,ak,a0⟩;rw [← r] at g;have a6 : Jw w s.QA A2:=fun b hb=>(a0 b hb).imp id (Nat.le_trans j.size);have ah : QFar w w3 s.QA:=Hh u.qu j r g;replace s2:=s1.trans g (by exact fun x hx _=>hx);refine ⟨_,rfl,s2,fun _ c=>?_⟩;have ag:=g.size;clear g;have ao:=s2.size;have KM:=km.mono (B':=B) (T':=[160,58]) (M':=[]) (by decide) (by simp) (Nat.le_refl _);replace KM:=(Mod.o0 l).trans KM;have i:=ah;replace HK:=HK.step KM (by decide) (by simp) (by omega);replace y:=y.step KM (by decide) (by simp) (by omega)
  replace BP:=BP.kept s2 (by assumption);replace n:=n.kept s2 (by assumption);clear s2;refine R.dn k1 ?_;refine rt c ?_;exact ⟨Gm u HK y BP HQ ak a6 (Fy (fun h=>aj h.1) (by omega) (by omega) (fun h=>a5 h.1 h.2.1 h.2.2)),i⟩
 have c4:=h6;refine wp_skip (k1 _ _ ?_);refine rt f ?_;exact ⟨⟨s,none,0,[],rfl,u.mod j (by simp),by rw [Su (fun h=>aj h.1) (by omega)]; rfl,Rs.Like.refl _ _,HK,PkAt.nil _ _ _,by simp⟩,i⟩
end Go.Proofs.YtkdeedhjkjffpaaGreat
namespace Go.Proofs.YtkdeedhjkjffpaaGreat
open Go.RowKit Go.Hub
theorem Pt (l : List Fc) : ∀ u ∈ l.flatMap rcell,u.oneCell' = true:=fun u a=>by
  obtain ⟨f,_,a⟩:=List.mem_flatMap.1 a
  simp only [rcell,List.mem_cons,List.not_mem_nil,or_false] at a
  rcases a with rfl | rfl | rfl | rfl | rfl | rfl | rfl <;> rfl
def x2h (B p : Nat) (s : Rs) (i : Nat) (id now : Int) (w : World) (e : Ending) (w' : World) : Prop:=
  ∃ s' A c pks,e = .returned (.slice A pks.length c) ∧ RefAt B w' p s' ∧ s'.abs = (Hg s.abs i id now).1 ∧ pks.map (·.p) = (Hg s.abs i id now).2 ∧ Rs.Like w s s' ∧ Mod [111,185,143,160] [s.im] B w w' ∧ PkAt B w w' A c pks
theorem S0 {s : Rs} {i : Nat} {f : Fc} {now : Int} {A : Option Addr} {c : Nat} (a : s.fly[i]? = some f) : drainS (Rs.abs { s with used:=s.used.erase f.id,fly:=s.fly.eraseIdx i,FA:=A,fc:=c }) now = Hg s.abs i f.id now:=by
  unfold Hg Rs.abs;simp [x2a]
theorem x2i {B p i : Nat} {s : Rs} {f : Fc} {w W : World} {k : Option Addr} {m L : Nat} (b : RefAt B w p s) (r : s.fly[i]? = some f) (j : Mod [111, 185, 143] [s.im] B w W)
    (n : Blk W p 111 #[.string s.cl,.slice s.LA s.ls.length s.lc,.pointer (some ⟨s.ip,0,none⟩),.pointer (some ⟨s.q,0,none⟩),.slice k L m,.map (some s.gm)]) (l : IdsR W s.ip s.im (s.used.erase f.id) 65535 s.taken)
    (h : Fresh w W 143 7 k (0 + i + (s.fly.length - ((i : Int) + 1).toNat)) m ([] ++ (s.fly.flatMap rcell).take (i * 7) ++ (s.fly.flatMap rcell).drop (((i : Int) + 1).toNat * 7))) (z : B ≤ w.heap.size) (hL : L = 0 + i + (s.fly.length - ((i : Int) + 1).toNat):=by omega) : RefAt B W p { s with used:=s.used.erase f.id,fly:=s.fly.eraseIdx i,FA:=k,fc:=m }:=by
  have t:=(List.getElem?_eq_some_iff.1 r).1;subst hL;have c : ∀ g ∈ s.fly.eraseIdx i,g ∈ s.fly:=fun g d=>List.mem_of_mem_eraseIdx d;have hl : 0 + i + (s.fly.length - ((i : Int) + 1).toNat) = (s.fly.eraseIdx i).length:=by rw [List.length_eraseIdx_of_lt t]; omega
  have hx : [] ++ (s.fly.flatMap rcell).take (i * 7) ++ (s.fly.flatMap rcell).drop (((i : Int) + 1).toNat * 7) = (s.fly.eraseIdx i).flatMap rcell:=by
    rw [List.eraseIdx_eq_take_drop_succ,List.flatMap_append,Iv rcell 7 (fun _=>rfl) s.fly i,Iw rcell 7 (fun _=>rfl) s.fly (i + 1),show ((i : Int) + 1).toNat = i + 1 by omega]
    rfl
  rw [hl] at n h;rw [hx] at h;refine ⟨n,l,b.qu.mod j (by decide),⟨h.own,fun g d=>(b.fly.pay g (c g d)).mod j (by decide),fun a ha=>Nat.le_trans z (h.from a ha),?_⟩,b.ls.mod j (by decide),b.got.mod j (by simpa using Ne.symm b.ne),b.ne,b.lop,b.loi,b.lom,b.log,b.tk,?_,fun g d=>b.ats g (c g d),fun g d=>b.idb g (c g d)⟩
  · have := b.fly.len
    show (s.fly.eraseIdx i).length ≤ 4;rw [List.length_eraseIdx_of_lt t];omega
  show (s.used.erase f.id).Perm ((s.fly.eraseIdx i).map (·.id))
  have u : (s.fly.map (·.id)).Perm (f.id :: (s.fly.eraseIdx i).map (·.id)):=by
    obtain ⟨v,x⟩:=List.getElem?_eq_some_iff.1 r;have o : s.fly.Perm (s.fly[i] :: s.fly.eraseIdx i):=Xe v;rw [x] at o;exact o.map (·.id)
  have y:=((b.perm.trans u).erase f.id)
  simpa using y
theorem S1 (B p : Nat) (s : Rs) (i : Nat) (f : Fc) (now : Int) (w : World) (m : RefAt B w p s) (hf : s.fly[i]? = some f) (hB : B ≤ w.heap.size) : Calls Tryz.prog 63 #[.pointer (some ⟨p,0,none⟩),.int .i64 i,.int .i64 now] w (x2h B p s i f.id now w):=by
 have o : Mod [111,185,143,160] [s.im] B w w:=.refl _ _ _ _;have g : Mod [111,185,143] [s.im] B w w:=.refl _ _ _ _;have n:=m.top;have d:=m.fly.own;have ID:=m.ids;have a9:=Sl.oO m.fly.own;have bg : i < s.fly.length:=(List.getElem?_eq_some_iff.1 hf).1;have bh:=m.fly.len;have bf:=Gw m.fly.own;obtain ⟨b,bj,hA⟩:=a9.addr (by omega);have y:=m.ids.set.map;have a0 : p ≠ s.im:=fun h=>m.top.not_map (h ▸ y);have ad : Far s.FA [s.im]:=y0b m.fly.own y;have az:=m.idb f (List.mem_of_getElem? hf);refine Bw Tryz.func63 Tryz.ntmps63 fun _ a=>?_;refine pr a fun _ a=>?_;refine wp_seq_k fun _ k1=>?_;refine R.begin (S:=fun W=>Kept [s.im] w W) (by kernel_rfl) (by exact (Kept.refl _ _).drewN 1) ?_;have c : Kept [s.im] w (w.drewN 1):=(Kept.refl _ _).drewN 1;have ab:=dk w 1;obtain ⟨w1,a2⟩ : ∃ W,W = w.drewN 1:=⟨_,rfl⟩;rw [← a2] at c ab ⊢;clear a2;have b0:=c.size;replace ID:=ID.kept ab (by simp) (by simp);refine rq [0,1,2] a fun _ a=>?_;refine R.t 3 a rfl c (fun W hW=>(E.load a Tryz.underlying106 rfl rfl ((n.kept hW (by simpa using a0)).cl rfl))) fun _ a=>?_;refine rq [4,5,6] a fun _ a=>?_;refine R.t 7 a rfl c (fun W hW=>(E.load a U108 rfl rfl ((n.kept hW (by simpa using a0)).cl rfl))) fun _ a=>?_;refine rq [8,9,10] a fun _ a=>?_
 refine R.t 11 a rfl c (fun W hW=>(E.load a U3 rfl rfl (Y3 (a9.keptF hW ad) hA hf 0 rfl))) fun _ a=>?_;refine R.cl 12 a rfl (Bm a Tryz.call88) (Tz s.ip s.im s.used 65535 s.taken f.id _ ID (y2u (by omega))) ?_;rintro e w2 ⟨rfl,q,r⟩;replace c:=c.trans q (by simp);refine ⟨_,rfl,c,fun _ a=>?_⟩;have b1:=q.size;clear q;have aq:=c.size;have KM : Mod [] [s.im] B w w2:=Mod.of_kept c (fun x hx _=>by obtain rfl:=List.mem_singleton.1 hx; exact ⟨m.lom,.inr ⟨y,by simp⟩⟩);replace o:=o.step KM (by decide) (by simp) (by omega);replace g:=g.step KM (by decide) (by simp) (by omega);replace n:=n.kept c (by simpa using a0);replace d:=d.mod KM (by decide);clear c;refine R.dn k1 ?_;refine wp_seq_k fun _ k1=>?_;refine RB.begin (S:=fun W=>Kept [] w2 W) 16 (by kernel_rfl) (by exact (Kept.refl _ _).drewN 1) ?_;have c:=dk w2 1;have ac:=dk w2 1;obtain ⟨w3,a3⟩ : ∃ W,W = w2.drewN 1:=⟨_,rfl⟩;rw [← a3] at c ac ⊢;clear a3;have b2:=c.size;replace d:=d.mod (T:=[]) (M:=[]) (Mod.o0 (B:=B) ac) (by simp);refine rb [0,1,2,3,4,5] a fun _ a=>?_;refine RB.p 6 a rfl c (E.slLhi a U108 Z71 rfl rfl (by omega) (by omega) ) fun _ a=>?_;refine rb [8,9,10,11,12,13] a fun _ a=>?_;refine RB.p 14 a rfl c (E.slLlo a U108 Z71 rfl rfl (by omega) (by omega) ) fun _ a=>?_;refine RB.one 7 (by kernel_rfl) (by kernel_rfl) ?_
 refine O.append a rfl Aa (by decide) U108 Zz rfl rfl rfl rfl (Own.nil _ _ _) (Sl.oO (d.head (k:=i) (by omega))) (fun u hu=>Pt _ u (List.mem_of_mem_take hu)) (by unfold maxLen; omega) (by omega) fun _ w4 Ax cx a4=>?_;have l : Kept [] w3 w4:=by simpa [Value.ownBlock] using a4.kept
 have FX : Fresh w w4 143 7 Ax (0 + i) cx ([] ++ (s.fly.flatMap rcell).take (i * 7)):=a4.next (Fresh.nil w w3 143 7) (Nat.le_trans o.size c.size)
 have af : Fresh w2 w4 143 7 Ax (0 + i) cx ([] ++ (s.fly.flatMap rcell).take (i * 7)):=a4.next (Fresh.nil w2 w3 143 7) c.size
 have j:=c.trans l (by simp);refine ⟨j,fun a=>?_⟩;have b3:=l.size;replace d:=d.mod (T:=[]) (M:=[]) (Mod.o0 (B:=B) l) (by simp);clear l;replace c:=j;clear j;refine RB.one 15 (by kernel_rfl) (by kernel_rfl) ?_;refine O.append a rfl Aa (by decide) U108 Zz rfl rfl rfl rfl (FX.own) (Sl.ct (Sl.oO d) (k:=((i : Int) + 1).toNat) (by omega) (Gw d)) (fun u hu=>Pt _ u (List.mem_of_mem_drop hu)) (by unfold maxLen; omega) (by omega) fun _ w5 Az cz a5=>?_;have j:=a5.grow af c;have FZ:=a5.next FX (Nat.le_trans o.size c.size)
 refine ⟨j,fun a=>?_⟩;have b4:=a5.kept.size;replace c:=j;clear j;refine RB.stop (by kernel_rfl) ?_;have ar:=c.size;replace o:=o.trans (.o0 c);replace g:=g.trans (.o0 c);replace n:=n.z c;replace r:=r.mod (Mod.o0 (T:=[]) (M:=[]) (B:=B) c) (by decide) (by simp);clear c;refine rq [16,17] a fun _ a=>?_;refine R.on 18 ?_;refine OT.store a rfl Aa Z31 rfl rfl rfl n (by (simp [Value.cells]; done)) fun _ w6 a aj a6=>?_;have b5:=a6.size;have KM:=(Mod.of_blk (T:=[111]) (M:=[]) (B:=B) a6 n m.lop (by simp));replace o:=o.step KM (by decide) (by simp) (by omega);replace g:=g.step KM (by decide) (by simp) (by omega);replace r:=r.mod KM (by decide) (by simp);replace FZ:=FZ.mod KM (by decide);replace n:=aj;simp only [Value.cells,List.setIfInBounds_toArray,List.set_cons_zero,List.set_cons_succ,Nat.reduceAdd,Nat.zero_add] at n;clear a6;refine R.dn k1 ?_;refine C.sk fun _ k1=>?_;(iterate 2 refine L.s a fun _ a=>?_);have HD:=x2i m hf g n r FZ hB;refine L.cl a (Bm a Tryz.call86) (Pr B p _ now _ HD (by omega)) ?_;rintro e w7 ⟨s2,A2,c2,ap,rfl,ah,ak,al,v,q,PK⟩;replace q : Mod [111,185,143,160] [s.im] B _ _:=q;refine ⟨_,rfl,fun _ a=>?_⟩;have b6:=q.size;replace o:=o.step q (by decide) (by simp) (by omega);clear q;refine re a k1 ?_
 exact ⟨s2,A2,c2,ap,rfl,ah,by rw [ak,S0 hf],by rw [al,S0 hf],(⟨v.im,v.gm,v.cl,v.ls,fun b hb=>(v.qa b hb).imp id (fun h=>by omega)⟩),o,PK.lw (by omega)⟩
end Go.Proofs.YtkdeedhjkjffpaaGreat
namespace Go.Proofs.YtkdeedhjkjffpaaGreat
open Go.RowKit Go.Hub
theorem Z81 (a : Int) (b : Int) : Tryz.prog.built 39 [(0,.int .i64 a),(4,.int .i64 b)] = some #[.int .i64 a,(.bool false),(.bool false),(.int .i64 0),.int .i64 b,(.string ⟨#[]⟩),(.slice none 0 0),(.int .i64 0),(.string ⟨#[]⟩),(.bool false),(.int .i64 0),(.bool false),(.string ⟨#[]⟩),(.slice none 0 0),(.int .i64 0),(.bool false),(.bool false),(.bool false),(.string ⟨#[]⟩),(.slice none 0 0),(.bool false),(.int .i64 0),(.slice none 0 0),(.slice none 0 0)]:=by kernel_rfl
section
variable {P : Program} {ops : Array Oper} {a : Act} {w : World} {Q : Exit → Act → World → Prop} {K : Act → World → Prop} {n d i : Nat} {l : FL} {v : Value} {ty : TypeId} {ps : String} {af : Array Edge} {gd : Option (Nat × Bool)} {x y : Operand} {t : TypeId}
theorem _root_.Go.Hub.O.storeO {S : World → Prop} (f : Fr n a l) (h : ops[i]? = some ⟨none, .store t x y, ty, ps, af, gd⟩) (hw : Region.wanted ⟨none, .store t x y, ty, ps, af, gd⟩ (yielded ops a.tmps) = true) (hi : (P.info? t).map (·.size) = some 1) {b g o j : Nat} {e : TypeId} {size k c : Nat} {A : Option Addr} {xs : List Value} (hA : A = some ⟨b, g, none⟩) (q : Own w e size (.slice A k c) k xs) (hx : Ae l x = some (.pointer (some ⟨b, o, none⟩))) (ho : o = g + j) (hj : j < xs.length) (hy : Ae l y = some v) (s : v.oneCell' = true)
    (p : ∀ a' w',Own w' e size (.slice A k c) k (xs.set j v) → Kept [b] w w' → S w' ∧ (Fr n a' l → K a' w')) : wpOp P ops Q i (fun a w=>S w ∧ K a w) a w:=by
  subst ho;obtain ⟨⟨a5,u⟩,z,m⟩:=q.set_ hA hj v;exact O.act (S:=S) f h rfl hw (E.store f hi hx hy s u z) (p a _ m (Bj w b _ v)).1 fun a' r=>(p a' _ m (Bj w b _ v)).2 r
theorem _root_.Go.Hub.OT.storeO (f : Fr n a l) (h : ops[i]? = some ⟨none, .store t x y, ty, ps, af, gd⟩) (hw : Region.wanted ⟨none, .store t x y, ty, ps, af, gd⟩ (yielded ops a.tmps) = true) (hi : (P.info? t).map (·.size) = some 1) {b g o j : Nat} {e : TypeId} {size k c : Nat} {A : Option Addr} {xs : List Value} (z : A = some ⟨b, g, none⟩) (m : Own w e size (.slice A k c) k xs) (hx : Ae l x = some (.pointer (some ⟨b, o, none⟩))) (ho : o = g + j) (hj : j < xs.length) (hy : Ae l y = some v) (q : v.oneCell' = true)
    (hK : ∀ a' w',Fr n a' l → Own w' e size (.slice A k c) k (xs.set j v) → Kept [b] w w' → K a' w') : wpOp P ops Q i (fun a w=>True ∧ K a w) a w:=by
  subst ho;obtain ⟨⟨a5,r⟩,s,u⟩:=m.set_ z hj v;exact O.act (S:=fun _=>True) f h rfl hw (E.store f hi hx hy q r s) trivial fun a' p=>hK a' _ p u (Bj w b _ v)
end
theorem FlyR.knew {B : Nat} {w w' : World} {A : Option Addr} {c g : Nat} {l : List Fc} {cs : Array Value} (h : FlyR B w A c l) (a : Kept [g] w w') (i : Blk w g 143 cs) (d : B ≤ g) (k : ∀ b,(Value.slice A l.length c).ownBlock = some b → b ≠ g) : FlyR B w' A c l:=
  ⟨h.own.kept a (fun b f n=>k b f (List.mem_singleton.1 n)),fun m j=>(h.pay m j).mod (Mod.o1 (M:=[]) a i d) (by decide),h.loA,h.len⟩
theorem x2j : ∀ {l : List Fc} {i j : Nat} {f : Fc}, l[i]? = some f → j < 7 → ∀ v, (l.flatMap rcell).set (i * 7 + j) v = Gd (l.flatMap rcell) (i * 7) ((rcell f).set j v)
  | l,i,j,f,hf,hj,v=>by
    have hi:=(List.getElem?_eq_some_iff.1 hf).1
    have hn : i * 7 + 7 ≤ l.length * 7:=by omega
    apply List.ext_getElem?
    intro q
    rw [Iu _ _ _ _ (by rw [List.length_set,Fx]; exact hn),List.getElem?_set,List.length_set]
    simp only [rcell,List.length_cons,List.length_nil]
    rw [Fx]
    by_cases c : i * 7 ≤ q ∧ q < i * 7 + (0 + 1 + 1 + 1 + 1 + 1 + 1 + 1)
    · rw [if_pos c, List.getElem?_set]
      by_cases a : i * 7 + j = q
      · rw [if_pos a,if_pos (by omega),if_pos (by omega),if_pos (by simp; omega)]
      rw [if_neg a,if_neg (by omega)]
      obtain ⟨d,rfl⟩ : ∃ d,q = i * 7 + d:=⟨q - i * 7,by omega⟩
      have b : d < (rcell f).length:=by simp only [rcell,List.length_cons,List.length_nil]; omega
      rw [show i * 7 + d - i * 7 = d by omega]
      have:=Fk rcell 7 (fun _=>rfl) l i f hf d (rcell f)[d] (List.getElem?_eq_getElem b)
      rw [this]
      exact (List.getElem?_eq_getElem b).symm
    rw [if_neg c,if_neg (by omega)]
theorem FlyR.set {B : Nat} {w w' : World} {A : Option Addr} {c i j : Nat} {l : List Fc} {f f' : Fc} {v : Value} (h : FlyR B w A c l) (a : l[i]? = some f) (k : Mod [143] [] B w w') (O : Own w' 143 7 (.slice A l.length c) l.length ((l.flatMap rcell).set (i * 7 + j) v)) (q : rcell f' = (rcell f).set j v) (p : f'.x = f.x) (o : j < 7:=by decide) : FlyR B w' A c (l.set i f'):=by
  have n:=(List.getElem?_eq_some_iff.1 a).1
  have r : (l.flatMap rcell).set (i * 7 + j) v = (l.set i f').flatMap rcell:=by
    have m:=x2j (l:=l) (i:=i) (f:=f) a o v;rw [m,← q,x3r rcell 7 (fun _=>rfl) (by decide) l i f' n]
  have d : l.length = (l.set i f').length:=by simp
  rw [r,d] at O;refine ⟨O,fun g b=>?_,h.loA,by rw [← d]; exact h.len⟩
  rcases List.mem_or_eq_of_mem_set b with b | rfl
  · exact (h.pay g b).mod k (by decide)
  rw [p]; exact (h.pay f (List.mem_of_getElem? a)).mod k (by decide)
section
variable {s : Rs} {kind id now : Int} {i : Nat} {x : Fc}
theorem Vk (s : Rs) : s.abs.fly.map (·.id) = s.fly.map (·.id):=by simp [Rs.abs,Fc.abs]
theorem y0f (h : Gu (s.fly.map (·.id)) id 0 < 0) : ackS s.abs kind id now = (s.abs,[]):=by
  unfold ackS;simp only;rw [Vk]
  split
  · rfl
  rw [if_pos h]
theorem Hx (h : Gu (s.fly.map (·.id)) id 0 = i) (b : s.fly[i]? = some x) : ackS s.abs kind id now = if (kind = 4 ∧ x.x.m.qos = 1) ∨ (kind = 7 ∧ x.rc = true) then Hg s.abs i x.id now
    else if kind = 5 ∧ x.x.m.qos = 2 then ({ s.abs with fly:=s.abs.fly.set i { x.abs with rc:=true,at_:=Bf now } },[Bq 6 x.id]) else (s.abs,[]):=by
  have a : s.abs.fly[(i : Int).toNat]? = some x.abs:=by simp [Rs.abs,b]
  unfold ackS;simp only;rw [Vk,h,a];simp only;rw [if_neg (by omega)]
  rfl
end
theorem S2 {s : SA} {i : Nat} {id now : Int} {a : List Pc} (h : a.map (·.p) = (Hg s i id now).2) : a.length ≤ 10:=by
  have b:=congrArg List.length h;rw [List.length_map] at b;have:=Po { s with used:=s.used.erase id,fly:=s.fly.eraseIdx i } now;unfold Hg at b;omega
theorem x6c {B p i : Nat} {A : Option Addr} {c : Nat} {s : Rs} {x : Fc} {w W : World} {r : SA × List Pa} {now : Int} (a : RefAt B w p s) (g : s.fly[i]? = some x) (l : Mod [111, 185, 143, 160] [s.im, s.gm] B w W) (d : Mod [143] [] B w W) (k : Blk W p 111 s.cells) (j : FlyR B W s.FA s.fc ((s.fly.set i { x with rc := true }).set i { x with rc := true, at_ := Bf now }))
    (h : r = ({ s.abs with fly:=s.abs.fly.set i { x.abs with rc:=true,at_:=Bf now } },[Bq 6 x.id])) (m : PkAt B w W A c [⟨Bq 6 x.id,none,0⟩]) : Hi [111,185,143,160] B p s r w (.returned (.slice A 1 c)) W:=by
  have o:=(List.getElem?_eq_some_iff.1 g).1;have q:=(List.getElem?_eq_some_iff.1 g).2;rw [List.set_set] at j;refine ⟨{ s with fly:=s.fly.set i { x with rc:=true,at_:=Bf now } },A,c,[⟨Bq 6 x.id,none,0⟩],rfl,⟨?_,a.ids.mod d (by decide) (by simp),a.qu.mod d (by decide),j,a.ls.mod d (by decide),a.got.mod d (by simp),a.ne,a.lop,a.loi,a.lom,a.log,a.tk,?_,?_,?_⟩,?_,⟨rfl,rfl,rfl,rfl,fun b n=>.inl n⟩,l,m,by simp⟩
  · simpa [Rs.cells] using k
  · show s.used.Perm ((s.fly.set i _).map (·.id))
    have : (s.fly.set i { x with rc:=true,at_:=Bf now }).map (·.id) = s.fly.map (·.id):=by
      rw [List.map_set];exact x5u (by rw [List.getElem?_map,g]; rfl)
    rw [this];exact a.perm
  · intro y f
    rcases List.mem_or_eq_of_mem_set f with f | rfl
    · exact a.ats y f
    exact I3 now
  · intro y f
    rcases List.mem_or_eq_of_mem_set f with f | rfl
    · exact a.idb y f
    exact a.idb x (List.mem_of_getElem? g)
  rw [h];simp [Rs.abs,List.map_set,Fc.abs]
theorem Pu (B p : Nat) (s : Rs) (ad id now : Int) (ar : Array Value) (a1 : ar.toList[0]? = some (.int .i64 ad)) (b2 : ar.toList[4]? = some (.int .i64 id)) (w : World) (n : RefAt B w p s) (hB : B ≤ w.heap.size) : Calls Tryz.prog 30 #[.pointer (some ⟨p,0,none⟩),.agg ar,.int .i64 now] w (Hi [111,185,143,160] B p s (ackS s.abs ad id now) w):=by
 have g : Mod [111,185,143,160] [s.im,s.gm] B w w:=.refl _ _ _ _;have h : Mod [] [] B w w:=.refl _ _ _ _;have m : Mod [143] [] B w w:=.refl _ _ _ _;have o:=n.top;have v:=n.fly;have co:=n.fly.len;refine Bw Tryz.func30 Tryz.ntmps30 fun _ f=>?_;refine C.sk fun _ k1=>?_;refine L.box f Aa (by decide) rfl rfl fun _ w1 g0 N f=>?_;obtain ⟨d,q,b5,cb,ce⟩:=N.al;have ay:=g.lo b5;have bf : p ≠ g0:=by have:=o.lt; omega
 replace g:=g.trans (.o0 q);replace h:=h.trans (.o0 q);replace m:=m.trans (.o0 q);replace o:=o.z q;replace v:=v.mod (Mod.o0 (T:=[]) (M:=[]) (B:=B) q) (by decide);clear N q;refine pe f k1 fun _ f=>?_;refine C.sk fun _ k1=>?_;(iterate 2 refine L.s f fun _ f=>?_);refine L.lo f (d.cl b2) fun _ f=>?_;refine L.cl f (Bm f Tryz.call62) (y0e B p s id _ (n.mod h (by simp))) ?_;rintro e cr ⟨rfl,rfl⟩;refine ⟨_,rfl,fun _ f=>?_⟩;refine pe f k1 fun _ f=>?_;refine wp_seq_k fun _ k1=>?_;refine pr f fun _ f=>?_;refine f.sD 14 rfl (fun h0 f=>?_) (fun h0 f=>?_)
 ·have b1:=h0;refine C.cT f rfl ?_;refine rt f ?_;exact ⟨s,none,0,[],rfl,n.mod h (by simp),by rw [y0f b1]; rfl,Rs.Like.refl _ _,g,PkAt.nil _ _ _,by simp⟩
 have b3:=h0;obtain ⟨i,x,r,hf,bv⟩:=x5t (l:=s.fly) (id:=id) b3;rw [r] at f;have bu:=(List.getElem?_eq_some_iff.1 hf).1;obtain ⟨b,ba,hA⟩:=(Sl.oO n.fly.own).addr (by omega);refine C.cF f rfl ?_;refine wp_skip (k1 _ _ ?_);refine C.sk fun _ k1=>?_;(iterate 6 refine L.s f fun _ f=>?_);refine L.va f (E.loadR f U143 rfl Z71 rfl (Sl.row (i:=i) (cs:=rcell x) (Sl.oO v.own) (by omega) hA (Fk rcell 7 (fun _=>rfl) s.fly i x hf)) rfl) fun _ f=>?_;refine L.alloc f Aa (by decide) (z:=(.agg #[(.int .i64 0),(.int .i64 0),(.string ⟨#[]⟩),(.slice none 0 0),(.int .i64 0),(.bool false),(.bool false)])) (fun _=>by kernel_rfl) rfl fun _ w2 g1 N f=>?_;obtain ⟨ag,q,b6,cc,cf⟩:=N.al;have c4:=g.lo b6;have bg : p ≠ g1:=by have:=o.lt; omega
 have b8 : g0 ≠ g1:=by have:=d.lt; omega
 replace g:=g.trans (.o0 q);replace h:=h.trans (.o0 q);replace m:=m.trans (.o0 q);replace o:=o.z q;replace v:=v.mod (Mod.o0 (T:=[]) (M:=[]) (B:=B) q) (by decide);replace d:=d.z q;clear N q;refine L.storeR f Aa Z71 rfl rfl rfl ag rfl rfl fun _ w3 f bj t=>?_;have cg:=t.size;replace g:=g.kN t (by simp; omega);replace h:=h.kN t (by simp; omega);replace m:=m.kN t (by simp; omega);replace o:=o.kn t;replace v:=v.knew t ag (by omega) (fun b hb e=>by have:=(n.fly.own.blk b hb).1; omega);replace d:=d.kn t;replace ag:=bj;clear t;refine wn k1 ?_;refine wp_seq_k fun _ k1=>?_;refine wp_block ?_;refine C.sk fun _ k2=>?_;refine L.s f fun _ f=>?_;refine L.lo f (d.cl a1) fun _ f=>?_;(iterate 2 refine L.s f fun _ f=>?_);refine f.sD 26 rfl (fun h1 f=>?_) (fun h1 f=>?_)
 ·have bx:=h1;refine pe f k2 fun _ a=>?_;refine C.sp a (fun h2 a=>?_) (fun h2 a=>?_)
  ·have bw:=h2;refine C.sk fun _ k3=>?_;refine L.s a fun _ c=>?_;(iterate 2 refine L.s c fun _ c=>?_);refine L.cl c (Ji c Tryz.call63) (S1 B p s i x now _ (n.mod h (by simp)) hf (by omega)) ?_;rintro e w4 ⟨s2,A2,c2,au,rfl,aj,ap,a7,u,q,PK⟩;have a6:=S2 a7;have a8:=g.size;replace PK:=PK.lw (w1:=w) a8;replace u:=(Rs.Like.refl w s).trans u a8;refine ⟨_,rfl,fun _ c=>?_⟩;have af:=q.size;replace g:=g.step q (by decide) (by simp) (by omega);clear q;refine re c k3 ?_;exact ⟨s2,A2,c2,au,rfl,aj,by rw [Hx r hf,if_pos (by simp_all),ap,a7],u,g,PK,a6⟩
  have bw:=h2;refine C.sk fun _ k3=>?_;refine L.s a fun _ a=>?_;refine L.lo a (d.cl a1) fun _ a=>?_;(iterate 2 refine L.s a fun _ a=>?_);refine a.sD 40 rfl (fun h3 c=>?_) (fun h3 c=>?_)
  ·clear a
   exfalso
   omega
  have b4:=h3;refine L.rn c fun _ a=>?_;refine wn k3 ?_;have a:=a.sub (sv 36 (.bool false) (Ft a [0,2,4,6,7,8]));refine C.cF a rfl ?_;refine C.sk fun _ k3=>?_;refine L.s a fun _ a=>?_;refine L.lo a (d.cl a1) fun _ a=>?_;(iterate 2 refine L.s a fun _ a=>?_);refine a.sD 70 rfl (fun h4 c=>?_) (fun h4 c=>?_)
  ·clear a
   exfalso
   omega
  have aq:=h4;refine L.rn c fun _ a=>?_;refine wn k3 ?_;have a:=a.sub (sv 66 (.bool false) (Ft a [0,2,6,7]));refine C.cF a rfl ?_;refine wp_skip (k1 _ _ ?_);refine rt a ?_;exact ⟨s,none,0,[],rfl,n.mod h (by simp),by rw [Hx r hf,if_neg (by simp_all),if_neg (by simp_all)]; rfl,Rs.Like.refl _ _,g,PkAt.nil _ _ _,by simp⟩
 have bx:=h1;refine L.rn f fun _ f=>?_;refine wn k2 ?_;have f:=f.sub (sv 22 (.bool false) (Ft f [0,2,4,6,7,8]));refine C.cF f rfl ?_;refine C.sk fun _ k2=>?_;refine L.s f fun _ f=>?_;refine L.lo f (d.cl a1) fun _ f=>?_;(iterate 2 refine L.s f fun _ f=>?_);refine f.sD 40 rfl (fun h5 f=>?_) (fun h5 f=>?_)
 ·have b4:=h5;refine pe f k2 fun _ a=>?_;refine C.sp a (fun h6 a=>?_) (fun h6 a=>?_)
  ·have bz:=h6;refine wp_seq_k fun _ k3=>?_;obtain ⟨MM,aa⟩ : ∃ MM,MM = (Value.slice s.FA s.fly.length s.fc).ownBlock.toList:=⟨_,rfl⟩;have cp : p ∉ MM:=by rw [aa]; exact Bc n.fly.own n.top (by decide)
   have ca : g0 ∉ MM:=by rw [aa]; exact F3 n.fly.own ay
   have ax:=v.own;refine RB.begin (S:=fun W=>Kept MM w3 W) 15 (by kernel_rfl) (by exact (Kept.refl _ _).drewN 1) ?_;have s1 : Kept MM w3 (w3.drewN 1):=(Kept.refl _ _).drewN 1;have b0:=dk w3 1;obtain ⟨w4,ab⟩ : ∃ W,W = w3.drewN 1:=⟨_,rfl⟩;rw [← ab] at s1 b0 ⊢;clear ab;have af:=s1.size;replace v:=v.mod (T:=[]) (M:=[]) (Mod.o0 (B:=B) b0) (by simp);refine rb [0,1,2] a fun _ c=>?_;refine RB.tk 3 c rfl s1 (fun W hW=>(E.load c U108 rfl rfl ((o.kept hW (by assumption)).cl rfl))) fun _ c=>?_;refine rb [4,5,6,7] c fun _ c=>?_;refine RB.tk 8 c rfl s1 (fun W hW=>(E.load c U108 rfl rfl ((o.kept hW (by assumption)).cl rfl))) fun _ c=>?_;refine rb [9,10] c fun _ c=>?_;refine RB.cl 11 c rfl (Dt c Tryz.call15) (Fw now _) ?_;rintro e ct ⟨rfl,rfl⟩;refine ⟨_,rfl,s1,fun _ c=>?_⟩;refine rb [12,13] c fun _ c=>?_;refine RB.one 14 (by kernel_rfl) (by kernel_rfl) ?_;refine O.storeO c rfl Aa Z1 (j:=i * 7 + 6) hA v.own rfl (show ba + (i : Int).toNat * 7 + 6 = _ by omega) (by rw [Fx]; omega) rfl rfl fun _ w5 a5 ks=>?_;have ao:=s1.trans ks (fun y hy _=>by obtain rfl:=List.mem_singleton.1 hy; rw [aa,hA]; simp [Value.ownBlock]);refine ⟨ao,fun c=>?_⟩;have ch:=ks.size;have ah:=v.set hf (f':={ x with rc:=true }) (.of_own1 hA ks v.own n.fly.loA (by simp)) a5 rfl rfl;replace s1:=ao;clear ao ks a5;refine RB.stop (by kernel_rfl) ?_
   have c3:=s1.size;have KM:=Mod.oO (T:=[143]) (M:=[]) (B:=B) (aa ▸ s1) ax n.fly.loA (by simp);replace g:=g.step KM (by decide) (by simp) (by omega);replace m:=m.step KM (by decide) (by simp) (by omega);replace o:=o.kept s1 (by assumption);replace d:=d.kept s1 (by assumption);clear s1;refine rq [15,16] c fun _ c=>?_;refine R.on 17 ?_;refine OT.storeO c rfl Aa Z0 (j:=i * 7 + 1) hA ah.own rfl (show ba + (i : Int).toNat * 7 + 1 = _ by omega) (by rw [Fx]; (simp; omega)) rfl rfl fun _ w6 c a5 ks=>?_;have ci:=ks.size;have KM : Mod [143] [] B _ w6:=.of_own1 hA ks ah.own n.fly.loA (by simp);have ai:=ah.set (y3s bu (f':={ x with rc:=true })) (f':={ x with rc:=true,at_:=Bf now }) KM a5 rfl rfl;replace g:=g.step KM (by decide) (by simp) (by omega);replace m:=m.step KM (by decide) (by simp) (by omega);replace o:=o.mod KM (by decide);replace d:=d.mod KM (by decide);clear ks KM a5;refine R.dn k3 ?_;refine C.sk fun _ k3=>?_;refine L.s c fun _ c=>?_;refine L.lo c (d.cl b2) fun _ c=>?_;refine L.bd c (Z81 _ _) fun _ c=>?_;refine L.buildSlice c Aa (by decide) (pL c rfl) U69 Zo rfl rfl (Zn ⟨Bq 6 id,none,0⟩) fun _ w7 g6 N c=>?_;have bk:=N.own (k:=1) (size:=24) rfl (by decide);obtain ⟨cm,q,b7,cd,cj⟩:=N.al;have az:=g.lo b7;have bh : p ≠ g6:=by have:=o.lt; omega
   have b9 : g0 ≠ g6:=by have:=d.lt; omega
   replace g:=g.trans (.o0 q);replace m:=m.trans (.o0 q);replace o:=o.z q;replace d:=d.z q;replace ai:=ai.mod (Mod.o0 (T:=[]) (M:=[]) (B:=B) q) (by decide);clear N q;refine re c k3 ?_;exact x6c n hf g m o ai (by rw [Hx r hf,if_neg (by simp_all),if_pos (by simp_all)]) (Pp (x:=⟨Bq 6 x.id,none,0⟩) (bv ▸ bk) az (Pay.nil _ _ _))
  have bz:=h6;refine C.sk fun _ k3=>?_;refine L.s a fun _ a=>?_;refine L.lo a (d.cl a1) fun _ a=>?_;(iterate 2 refine L.s a fun _ a=>?_);refine a.sD 70 rfl (fun h7 c=>?_) (fun h7 c=>?_)
  ·clear a
   exfalso
   omega
  have aq:=h7;refine L.rn c fun _ a=>?_;refine wn k3 ?_;have a:=a.sub (sv 66 (.bool false) (Ft a [0,2,6,7]));refine C.cF a rfl ?_;refine wp_skip (k1 _ _ ?_);refine rt a ?_;exact ⟨s,none,0,[],rfl,n.mod h (by simp),by rw [Hx r hf,if_neg (by simp_all),if_neg (by simp_all)]; rfl,Rs.Like.refl _ _,g,PkAt.nil _ _ _,by simp⟩
 have b4:=h5;refine L.rn f fun _ f=>?_;refine wn k2 ?_;have f:=f.sub (sv 36 (.bool false) (Ft f [0,2,4,6,7,8]));refine C.cF f rfl ?_;refine C.sk fun _ k2=>?_;refine L.s f fun _ f=>?_;refine L.lo f (d.cl a1) fun _ f=>?_;(iterate 2 refine L.s f fun _ f=>?_);refine f.sD 70 rfl (fun h8 f=>?_) (fun h8 f=>?_)
 ·have aq:=h8;refine pe f k2 fun _ a=>?_;refine C.sb a (fun h9 a=>?_) (fun h9 a=>?_)
  ·have c0:=h9;refine C.sk fun _ k3=>?_;refine L.s a fun _ c=>?_;(iterate 2 refine L.s c fun _ c=>?_);refine L.cl c (Ji c Tryz.call63) (S1 B p s i x now _ (n.mod h (by simp)) hf (by omega)) ?_;rintro e w4 ⟨s2,A2,c2,au,rfl,aj,ap,a7,u,q,PK⟩;have a6:=S2 a7;have a8:=g.size;replace PK:=PK.lw (w1:=w) a8;replace u:=(Rs.Like.refl w s).trans u a8;refine ⟨_,rfl,fun _ c=>?_⟩;have af:=q.size;replace g:=g.step q (by decide) (by simp) (by omega);clear q;refine re c k3 ?_;exact ⟨s2,A2,c2,au,rfl,aj,by rw [Hx r hf,if_pos (by simp_all),ap,a7],u,g,PK,a6⟩
  have c0:=h9;refine wp_skip (k1 _ _ ?_);refine rt a ?_;exact ⟨s,none,0,[],rfl,n.mod h (by simp),by rw [Hx r hf,if_neg (by simp_all),if_neg (by simp_all)]; rfl,Rs.Like.refl _ _,g,PkAt.nil _ _ _,by simp⟩
 have aq:=h8;refine L.rn f fun _ f=>?_;refine wn k2 ?_;have f:=f.sub (sv 66 (.bool false) (Ft f [0,2,6,7]));refine C.cF f rfl ?_;refine wp_skip (k1 _ _ ?_);refine rt f ?_;exact ⟨s,none,0,[],rfl,n.mod h (by simp),by rw [Hx r hf,if_neg (by simp_all),if_neg (by simp_all)]; rfl,Rs.Like.refl _ _,g,PkAt.nil _ _ _,by simp⟩
end Go.Proofs.YtkdeedhjkjffpaaGreat
namespace Go.Proofs.YtkdeedhjkjffpaaGreat
open Go.RowKit Go.Hub
theorem Xo {B g : Nat} {w W : World} {x : Pc} {cs : Array Value} (b : Blk W g 39 cs) (a : cs.toList = pcell x) (c : w.heap.size ≤ g) (d : Pay B W x.A x.p.pay) : PkAt B w W (some ⟨g,0,none⟩) 1 [x]:=by
  have h : cs.size = 24:=by rw [← Array.length_toList,a]; rfl
  refine Pp (x:=x) ⟨rfl,.inr ⟨g,0,1,cs,rfl,b,Nat.le_refl _,by decide,by omega,fun j u f=>?_⟩⟩ c d;rw [Nat.zero_add,← Array.getElem?_toList,a];exact f
def Kl (B p : Nat) (s : Rs) (r : SA × Bool × List Pa) (w : World) (e : Ending) (w' : World) : Prop:=
  ∃ s' A c pks,e = .returned (.tuple #[.bool r.2.1,.slice A pks.length c]) ∧ RefAt B w' p s' ∧ s'.abs = r.1 ∧ pks.map (·.p) = r.2.2 ∧ Rs.Like w s s' ∧ Mod [] [s.im,s.gm] B w w' ∧ PkAt B w w' A c pks ∧ pks.length ≤ 1
section
variable {s : SA} {kind qos id : Int}
theorem y3u (a : kind = 3) (b : qos = 0) : gotS s kind qos id = (s,true,[]):=by subst a b; rfl
theorem y3v (a : kind = 3) (b : qos = 1) : gotS s kind qos id = (s,true,[Bq 4 id]):=by subst a b; rfl
theorem y3w (a : kind = 3) (b : qos = 2) : gotS s kind qos id = ({ s with got:=G1 id s.got },!decide (id ∈ s.got),[Bq 5 id]):=by subst a b; rfl
theorem y3x (a : kind = 6) : gotS s kind qos id = ({ s with got:=s.got.erase id },false,[Bq 7 id]):=by subst a; rfl
theorem x6d (a : kind ≠ 6) (b : kind ≠ 3 ∨ (qos ≠ 0 ∧ qos ≠ 1 ∧ qos ≠ 2)) : gotS s kind qos id = (s,false,[]):=by
  unfold gotS;rw [if_neg a,if_pos (by omega)]
end
section
variable {B p : Nat} {A : Option Addr} {c : Nat} {s : Rs} {w W : World} {r : SA × Bool × List Pa} {b : Bool} {k id : Int} {S : List Int}
theorem Pv (f : RefAt B w p s) (d : Mod [] [s.im,s.gm] B w W) (a : Mod [] [] B w W) (h : r = (s.abs,b,[])) : Kl B p s r w (.returned (.tuple #[.bool b,.slice none 0 0])) W:=by
  subst h;exact ⟨s,none,0,[],rfl,f.mod a (by simp),rfl,rfl,Rs.Like.refl _ _,d,PkAt.nil _ _ _,by simp⟩
theorem x6e (g : RefAt B w p s) (d : Mod [] [s.im,s.gm] B w W) (a : Mod [] [] B w W) (h : r = (s.abs,b,[Bq k id])) (f : PkAt B w W A c [⟨Bq k id,none,0⟩]) : Kl B p s r w (.returned (.tuple #[.bool b,.slice A 1 c])) W:=by
  subst h;exact ⟨s,A,c,[⟨Bq k id,none,0⟩],rfl,g.mod a (by simp),rfl,rfl,Rs.Like.refl _ _,d,f,by simp⟩
theorem Vm (a : RefAt B w p s) (f : Mod [] [s.im,s.gm] B w W) (d : Mod [] [s.gm] B w W) (g : IsSet Tryz.prog 3 4 W s.gm S) (h : r = ({ s.abs with got:=S },b,[Bq k id])) (i : PkAt B w W A c [⟨Bq k id,none,0⟩]) : Kl B p s r w (.returned (.tuple #[.bool b,.slice A 1 c])) W:=by
  subst h;exact ⟨{ s with got:=S },A,c,[⟨Bq k id,none,0⟩],rfl,⟨a.top.mod d (by simp),a.ids.mod d (by simp) (by simpa using a.ne),a.qu.mod d (by simp),a.fly.mod d (by simp),a.ls.mod d (by simp),g,a.ne,a.lop,a.loi,a.lom,a.log,a.tk,a.perm,a.ats,a.idb⟩,rfl,rfl,⟨rfl,rfl,rfl,rfl,fun b j=>.inl j⟩,f,i,by simp⟩
end
theorem Vn (B p : Nat) (s : Rs) (ad b0 id : Int) (a8 : Array Value) (y : a8.toList[0]? = some (.int .i64 ad)) (a2 : a8.toList[4]? = some (.int .i64 id)) (aj : a8.toList[3]? = some (.int .i64 b0)) (w : World) (hS : RefAt B w p s) (hB : B ≤ w.heap.size) (ak : (Lit.int .i64 id).wf = true) (bh : s.got.length < maxLen) : Calls Tryz.prog 28 #[.pointer (some ⟨p,0,none⟩),.agg a8] w (Kl B p s (gotS s.abs ad b0 id) w):=by
 have n : Mod [] [s.im,s.gm] B w w:=.refl _ _ _ _;have j : Mod [] [s.gm] B w w:=.refl _ _ _ _;have o : Mod [] [] B w w:=.refl _ _ _ _;have r:=hS.top;have IG:=hS.got;have ax:=hS.got.map;have a7 : p ≠ s.gm:=fun h=>hS.top.not_map (h ▸ ax);refine Bw Tryz.func28 Tryz.ntmps28 fun _ f=>?_;refine C.sk fun _ k=>?_;refine L.box f Aa (by decide) rfl rfl fun _ w1 g0 N f=>?_;obtain ⟨g,q,az,c5,c9⟩:=N.al;have bv:=n.lo az;have b3 : p ≠ g0:=by have:=r.lt; omega
 replace n:=n.trans (.o0 q);replace j:=j.trans (.o0 q);replace o:=o.trans (.o0 q);replace r:=r.z q;replace IG:=IG.mod (Mod.o0 (T:=[]) (M:=[]) (B:=B) q) (by simp);clear N q;refine pe f k fun _ f=>?_;refine wp_seq_k fun _ k=>?_;refine wp_block ?_;refine C.sk fun _ k1=>?_;refine L.s f fun _ f=>?_;refine L.lo f (g.cl y) fun _ f=>?_;(iterate 2 refine L.s f fun _ f=>?_);refine f.sD 11 rfl (fun h0 f=>?_) (fun h0 f=>?_)
 ·have bj:=h0;refine L.s f fun _ a=>?_;refine L.lo a (g.cl aj) fun _ a=>?_;refine pe a k1 fun _ a=>?_;refine C.sp a (fun h1 a=>?_) (fun h1 a=>?_)
  ·have k7:=h1;refine rt a ?_;exact Pv hS n o (y3u (by omega) (by omega))
  have k7:=h1;refine C.sk fun _ k2=>?_;refine L.s a fun _ a=>?_;refine L.lo a (g.cl y) fun _ a=>?_;(iterate 2 refine L.s a fun _ a=>?_);refine a.sD 20 rfl (fun h2 i=>?_) (fun h2 i=>?_)
  ·have bl:=h2;refine L.s i fun _ i=>?_;refine L.lo i (g.cl aj) fun _ i=>?_;refine pe i k2 fun _ i=>?_;refine C.sp i (fun h3 i=>?_) (fun h3 i=>?_)
   ·have bk:=h3;refine wp_seq_k fun _ k2=>?_;refine R.begin (S:=fun W=>Kept [] w1 W) (by kernel_rfl) (by exact (Kept.refl _ _).drewN 1) ?_;have b:=dk w1 1;have bd:=dk w1 1;obtain ⟨w2,l⟩ : ∃ W,W = w1.drewN 1:=⟨_,rfl⟩;rw [← l] at b bd ⊢;clear l;have ae:=b.size;refine rq [0] i fun _ d=>?_;refine R.t 1 d rfl b (fun W v=>(E.load d U3 rfl rfl ((g.z v).cl a2))) fun _ d=>?_;refine R.p 2 d rfl b (E.build d (pL d rfl) (Z81 _ _)) fun _ d=>?_;refine rq [4] d fun _ d=>?_;refine R.on 3 ?_;refine O.buildSlice d rfl Aa (by decide) (pL d rfl) U69 Zo rfl rfl (Zn ⟨Bq 4 id,none,0⟩) (fun _ hk=>b.trans hk (by simp)) fun _ w3 g2 N u d=>?_;obtain ⟨b4,q,c2,c6,af⟩:=N.al;have bo:=b.size;clear N q;replace b:=u;clear u;refine rq [5] d fun _ d=>?_;have ap:=b.size;replace n:=n.trans (.o0 b);replace j:=j.trans (.o0 b);replace o:=o.trans (.o0 b);replace r:=r.z b;replace IG:=IG.mod (Mod.o0 (T:=[]) (M:=[]) (B:=B) b) (by simp);replace g:=g.z b;clear b;refine R.dn k2 ?_;refine Gc d ?_;exact x6e hS n o (y3v (by omega) (by omega)) (Xo (x:=⟨Bq 4 id,none,0⟩) b4 rfl (by omega) (Pay.nil _ _ _))
   have bk:=h3;refine C.sk fun _ k2=>?_;refine L.s i fun _ i=>?_;refine L.lo i (g.cl y) fun _ i=>?_;(iterate 2 refine L.s i fun _ i=>?_);refine i.sD 33 rfl (fun h4 d=>?_) (fun h4 d=>?_)
   ·have bn:=h4;refine L.s d fun _ d=>?_;refine L.lo d (g.cl aj) fun _ d=>?_;refine pe d k2 fun _ d=>?_;refine C.sp d (fun h5 d=>?_) (fun h5 d=>?_)
    ·have bm:=h5;refine wp_seq_k fun _ k2=>?_;have m : g0 ≠ s.gm:=by have:=hS.got.lt; omega
     refine R.begin (S:=fun W=>Kept [] w1 W) (by kernel_rfl) (by exact (Kept.refl _ _).drewN 1) ?_;have b:=dk w1 1;have bf:=dk w1 1;obtain ⟨w2,l⟩ : ∃ W,W = w1.drewN 1:=⟨_,rfl⟩;rw [← l] at b bf ⊢;clear l;have ae:=b.size;refine rq [0,1,2,3,4] d fun _ c=>?_;refine R.t 5 c rfl b (fun W v=>(E.load c U3 rfl rfl ((g.z v).cl a2))) fun _ c=>?_;refine R.t 6 c rfl b (fun W v=>(E.look c (IG.kept v (by simp)) U3 U4 U109 (fun _=>by kernel_rfl) rfl rfl ak)) fun _ c=>?_;refine rq [7,8] c fun _ c=>?_;have br:=b.size;replace n:=n.trans (.o0 b);replace j:=j.trans (.o0 b);replace o:=o.trans (.o0 b);replace r:=r.z b;replace IG:=IG.mod (Mod.o0 (T:=[]) (M:=[]) (B:=B) b) (by simp);replace g:=g.z b;clear b;refine R.dn k2 ?_;refine wp_seq_k fun _ k2=>?_;have KN:=Kept.refl [] w2;refine R.begin (S:=fun W=>Kept [s.gm] w2 W) (by kernel_rfl) (by exact (Kept.refl _ _).drewN 1) ?_;have b : Kept [s.gm] w2 (w2.drewN 1):=(Kept.refl _ _).drewN 1;have aw:=dk w2 1;obtain ⟨w3,aa⟩ : ∃ W,W = w2.drewN 1:=⟨_,rfl⟩;rw [← aa] at b aw ⊢;clear aa;have af:=b.size;replace KN:=KN.trans aw (by simp);refine rq [0,1,2] c fun _ c=>?_;refine R.t 3 c rfl b (fun W v=>(E.load c U109 rfl rfl ((r.kept v (by first | simpa using a7 | simpa using m)).cl rfl))) fun _ c=>?_;refine rq [4] c fun _ c=>?_
     refine R.t 5 c rfl b (fun W v=>(E.load c U3 rfl rfl ((g.kept v (by simpa using m)).cl a2))) fun _ c=>?_;refine R.on 6 ?_;refine O.mapPut c rfl Aa (IG.kept KN (by simp)) U3 U4 U109 rfl rfl rfl ak bh (fun _ hk=>b.trans hk (by simp)) fun _ w4 IN ks c=>?_;replace b:=b.trans ks (by simp);have b1:=ks.size;clear ks;have bs:=b.size;have KM : Mod [] [s.gm] B _ w4:=Mod.of_kept b (fun x hx _=>by obtain rfl:=List.mem_singleton.1 hx; exact ⟨hS.log,.inr ⟨IG.map,by simp⟩⟩);replace n:=n.step KM (by decide) (by simp) (by omega);replace j:=j.step KM (by decide) (by simp) (by omega);replace r:=r.kept b (by simpa using a7);replace g:=g.kept b (by simpa using m);clear b;refine R.dn k2 ?_;refine wp_seq_k fun _ k2=>?_;refine R.begin (S:=fun W=>Kept [] w4 W) (by kernel_rfl) (by exact (Kept.refl _ _).drewN 1) ?_;have b:=dk w4 1;have bg:=dk w4 1;obtain ⟨w5,ac⟩ : ∃ W,W = w4.drewN 1:=⟨_,rfl⟩;rw [← ac] at b bg ⊢;clear ac;have b2:=b.size;refine rq [0,1] c fun _ c=>?_;refine R.t 2 c rfl b (fun W v=>(E.load c U3 rfl rfl ((g.z v).cl a2))) fun _ c=>?_;refine R.p 3 c rfl b (E.build c (pL c rfl) (Z81 _ _)) fun _ c=>?_;refine rq [5] c fun _ c=>?_;refine R.on 4 ?_;refine O.buildSlice c rfl Aa (by decide) (pL c rfl) U69 Zo rfl rfl (Zn ⟨Bq 5 id,none,0⟩) (fun _ hk=>b.trans hk (by simp)) fun _ w6 g5 N u c=>?_
     obtain ⟨b6,q,c4,c8,ca⟩:=N.al;have bq:=b.size;clear N q;replace b:=u;clear u;refine rq [6] c fun _ c=>?_;have bu:=b.size;replace n:=n.trans (.o0 b);replace j:=j.trans (.o0 b);replace r:=r.z b;replace g:=g.z b;replace IN:=IN.mod (Mod.o0 (T:=[]) (M:=[]) (B:=B) b) (by simp);clear b;refine R.dn k2 ?_;refine Gc c ?_;exact Vm hS n j IN (y3w (by omega) (by omega)) (Xo (x:=⟨Bq 5 id,none,0⟩) b6 rfl (by omega) (Pay.nil _ _ _))
    have bm:=h5;refine C.sk fun _ k2=>?_;refine L.s d fun _ d=>?_;refine L.lo d (g.cl y) fun _ d=>?_;refine pe d k2 fun _ d=>?_;refine d.sD 57 rfl (fun h6 c=>?_) (fun h6 c=>?_)
    ·clear d
     exfalso
     omega
    have ay:=h6;refine C.cF c rfl ?_;refine wp_skip (k _ _ ?_);have d:=c.pk [4,5];refine rt d ?_;exact Pv hS n o (x6d (by omega) (by omega))
   clear i
   exfalso
   omega
  clear a
  exfalso
  omega
 have bj:=h0;refine L.rn f fun _ f=>?_;refine wn k1 ?_;have f:=f.sub (sv 7 (.bool false) (Ft f [0,3,4,5]));refine C.cF f rfl ?_;refine C.sk fun _ k1=>?_;refine L.s f fun _ f=>?_;refine L.lo f (g.cl y) fun _ f=>?_;(iterate 2 refine L.s f fun _ f=>?_);refine f.sD 20 rfl (fun h7 a=>?_) (fun h7 a=>?_)
 ·clear f
  exfalso
  omega
 have bl:=h7;refine L.rn a fun _ f=>?_;refine wn k1 ?_;have f:=f.sub (sv 16 (.bool false) (Ft f [0,3,4,5]));refine C.cF f rfl ?_;refine C.sk fun _ k1=>?_;refine L.s f fun _ f=>?_;refine L.lo f (g.cl y) fun _ f=>?_;(iterate 2 refine L.s f fun _ f=>?_);refine f.sD 33 rfl (fun h8 a=>?_) (fun h8 a=>?_)
 ·clear f
  exfalso
  omega
 have bn:=h8;refine L.rn a fun _ f=>?_;refine wn k1 ?_;have f:=f.sub (sv 29 (.bool false) (Ft f [0,3,4,5]));refine C.cF f rfl ?_;refine C.sk fun _ k1=>?_;refine L.s f fun _ f=>?_;refine L.lo f (g.cl y) fun _ f=>?_;refine pe f k1 fun _ f=>?_;refine C.sp f (fun h9 f=>?_) (fun h9 f=>?_)
 ·have ay:=h9;refine wp_seq_k fun _ k1=>?_;have KN:=Kept.refl [] w1;have m : g0 ≠ s.gm:=by have:=hS.got.lt; omega
  refine R.begin (S:=fun W=>Kept [s.gm] w1 W) (by kernel_rfl) (by exact (Kept.refl _ _).drewN 1) ?_;have b : Kept [s.gm] w1 (w1.drewN 1):=(Kept.refl _ _).drewN 1;have a9:=dk w1 1;obtain ⟨w2,l⟩ : ∃ W,W = w1.drewN 1:=⟨_,rfl⟩;rw [← l] at b a9 ⊢;clear l;have ae:=b.size;replace KN:=KN.trans a9 (by simp);refine rq [0,1,2] f fun _ a=>?_;refine R.t 3 a rfl b (fun W v=>(E.load a U109 rfl rfl ((r.kept v (by first | simpa using a7 | simpa using m)).cl rfl))) fun _ a=>?_;refine rq [4] a fun _ a=>?_;refine R.t 5 a rfl b (fun W v=>(E.load a U3 rfl rfl ((g.kept v (by simpa using m)).cl a2))) fun _ a=>?_;refine R.on 6 ?_;refine O.mapDrop a rfl Aa (IG.kept KN (by simp)) U3 U109 rfl rfl ak (fun _ hk=>b.trans hk (by simp)) fun _ w3 IN ks a=>?_;replace b:=b.trans ks (by simp);have af:=ks.size;clear ks;have ap:=b.size;have KM : Mod [] [s.gm] B _ w3:=Mod.of_kept b (fun x hx _=>by obtain rfl:=List.mem_singleton.1 hx; exact ⟨hS.log,.inr ⟨IG.map,by simp⟩⟩);replace n:=n.step KM (by decide) (by simp) (by omega);replace j:=j.step KM (by decide) (by simp) (by omega);replace r:=r.kept b (by simpa using a7);replace g:=g.kept b (by simpa using m);clear b;refine R.dn k1 ?_;refine wp_seq_k fun _ k1=>?_;refine R.begin (S:=fun W=>Kept [] w3 W) (by kernel_rfl) (by exact (Kept.refl _ _).drewN 1) ?_;have b:=dk w3 1;have av:=dk w3 1
  obtain ⟨w4,ab⟩ : ∃ W,W = w3.drewN 1:=⟨_,rfl⟩;rw [← ab] at b av ⊢;clear ab;have b1:=b.size;refine rq [0] a fun _ a=>?_;refine R.t 1 a rfl b (fun W v=>(E.load a U3 rfl rfl ((g.z v).cl a2))) fun _ a=>?_;refine R.p 2 a rfl b (E.build a (pL a rfl) (Z81 _ _)) fun _ a=>?_;refine rq [4] a fun _ a=>?_;refine R.on 3 ?_;refine O.buildSlice a rfl Aa (by decide) (pL a rfl) U69 Zo rfl rfl (Zn ⟨Bq 7 id,none,0⟩) (fun _ hk=>b.trans hk (by simp)) fun _ w5 g4 N u a=>?_;obtain ⟨b5,q,c3,c7,b2⟩:=N.al;have bp:=b.size;clear N q;replace b:=u;clear u;refine rq [5] a fun _ a=>?_;have bt:=b.size;replace n:=n.trans (.o0 b);replace j:=j.trans (.o0 b);replace r:=r.z b;replace g:=g.z b;replace IN:=IN.mod (Mod.o0 (T:=[]) (M:=[]) (B:=B) b) (by simp);clear b;refine R.dn k1 ?_;refine Gc a ?_;exact Vm hS n j IN (y3x (by omega)) (Xo (x:=⟨Bq 7 id,none,0⟩) b5 rfl (by omega) (Pay.nil _ _ _))
 have ay:=h9;refine wp_skip (k _ _ ?_);refine rt f ?_;exact Pv hS n o (x6d (by omega) (by omega))
end Go.Proofs.YtkdeedhjkjffpaaGreat
namespace Go.Proofs.YtkdeedhjkjffpaaGreat
open Go.RowKit Go.Hub
theorem _root_.Go.Hub.Blk.part {w : World} {g t : Nat} {b : Array Value} (h : Blk w g t b) (o : Nat) (a : List Value) (c : (b.toList.drop o).take a.length = a) : w.rangeAt g o a:=fun j v hv=>by
  refine h.cl (i:=o + j) ?_
  have e : (b.toList.drop o)[j]? = some v:=by
    rw [← c] at hv;rw [List.getElem?_take] at hv
    split at hv
    · exact hv
    cases hv
  rw [List.getElem?_drop] at e;exact e
def Pw (B p : Nat) (s : Rs) (now ago : Int) (w : World) (e : Ending) (w' : World) : Prop:=
  ∃ s' A c pks,e = .returned (.slice A pks.length c) ∧ RefAt B w' p s' ∧ s'.abs = (againS s.abs now ago).1 ∧ pks.map (·.p) = (againS s.abs now ago).2 ∧ Rs.Like w s s' ∧ Mod [143] [] B w w' ∧ PkAt B w w' A c pks ∧ pks.length ≤ 4
theorem FlyR.seg {B : Nat} {w w' : World} {A : Option Addr} {c k : Nat} {a b : List Fc} {f f' : Fc} {v : Value} (h : FlyR B w A c (a ++ f :: b)) (p : (a ++ f :: b)[k]? = some f) (i : Mod [143] [] B w w') (l : a.length = k) (O : Own w' 143 7 (.slice A (a ++ f :: b).length c) (a ++ f :: b).length (((a ++ f :: b).flatMap rcell).set (k * 7 + 1) v)) (n : rcell f' = (rcell f).set 1 v) (m : f'.x = f.x) : FlyR B w' A c (a ++ f' :: b):=by
  subst l
  have o : ((a ++ f :: b).flatMap rcell).set (a.length * 7 + 1) v = (a ++ f' :: b).flatMap rcell:=by
    rw [List.flatMap_append,List.flatMap_append,List.set_append_right _ _ (by rw [Fx]; omega),Fx,List.flatMap_cons,List.flatMap_cons,show a.length * 7 + 1 - a.length * 7 = 1 by omega,List.set_append_left _ _ (by simp),n]
  have j : (a ++ f :: b).length = (a ++ f' :: b).length:=by simp
  rw [o,j] at O;refine ⟨O,fun g d=>?_,h.loA,by rw [← j]; exact h.len⟩
  rcases List.mem_append.1 d with d | d
  · exact (h.pay g (List.mem_append_left _ d)).mod i (by decide)
  rcases List.mem_cons.1 d with rfl | d
  · rw [m]; exact (h.pay f (by simp)).mod i (by decide)
  exact (h.pay g (by simp [d])).mod i (by decide)
theorem Xp {B p k : Nat} {s : Rs} {now ago : Int} {w W : World} {i n : List Fc} {o : Option Addr} {r : Nat} {d : List Pc} (c : RefAt B w p s) (u : n = s.fly.drop k) (v : FlyR B W s.FA s.fc (i ++ n)) (t : againF now ago (s.fly.map Fc.abs) = (i.map Fc.abs ++ (againF now ago (n.map Fc.abs)).1, d.map (·.p) ++ (againF now ago (n.map Fc.abs)).2)) (a : i.map (·.id) = (s.fly.take k).map (·.id)) (l : ∀ f ∈ i, -1099511627776 ≤ f.at_ ∧ f.at_ ≤ 1099511627776)
    (y : PkAt B w W o r d) (j : Mod [143] [] B w W) (x : Blk W p 111 s.cells) (h : s.fly.length ≤ k ∧ d.length ≤ 4) : Pw B p s now ago w (.returned (.slice o d.length r)) W:=by
  obtain rfl : n = []:=by rw [u,List.drop_eq_nil_of_le h.1]
  rw [List.take_of_length_le h.1] at a;simp only [List.append_nil,List.map_nil,againF] at v t;have hl : i.length = s.fly.length:=by have:=congrArg List.length a; simpa using this
  have m : ∀ f ∈ i,1 ≤ f.id ∧ f.id ≤ 65535:=fun f hf=>by
    have : f.id ∈ s.fly.map (·.id):=a ▸ List.mem_map_of_mem hf;obtain ⟨g,hg,e⟩:=List.mem_map.1 this;rw [← e]; exact c.idb g hg
  refine ⟨{ s with fly:=i },o,r,d,rfl,⟨?_,c.ids.mod j (by decide) (by simp),c.qu.mod j (by decide),v,c.ls.mod j (by decide),c.got.mod j (by simp),c.ne,c.lop,c.loi,c.lom,c.log,c.tk,?_,l,m⟩,?_,?_,⟨rfl,rfl,rfl,rfl,fun b z=>.inl z⟩,j,y,h.2⟩
  · show Blk W p 111 #[.string s.cl, .slice s.LA s.ls.length s.lc, .pointer (some ⟨s.ip, 0, none⟩), .pointer (some ⟨s.q, 0, none⟩), .slice s.FA i.length s.fc, .map (some s.gm)]
    rw [hl]; exact x
  · show s.used.Perm (i.map (·.id))
    rw [a]; exact c.perm
  · unfold againS Rs.abs
    simp only;rw [t]
  unfold againS Rs.abs;simp only;rw [t]
theorem Px {now a b : Int} (c : a ≤ -2199023255552) (d : b ≤ -2199023255552) : ∀ (l : List Fa), (∀ f ∈ l, -1099511627776 ≤ f.at_ ∧ f.at_ ≤ 1099511627776) → againF now a l = againF now b l
  | [],_=>rfl
  | f :: r,h=>by
    have h1:=h f (by simp)
    have j:=I3 now
    simp only [againF]
    rw [Px c d r (fun g i=>h g (by simp [i])),if_neg (show ¬ Bf now - f.at_ < a by omega),if_neg (show ¬ Bf now - f.at_ < b by omega)]
theorem Xq {B p : Nat} {w : World} {s : Rs} {now : Int} (c : RefAt B w p s) : Nn s.abs now = ((drainS (againS s.abs now (-1152921504606846976)).1 now).1,(againS s.abs now (-1152921504606846976)).2 ++ (drainS (againS s.abs now (-1152921504606846976)).1 now).2):=by
  have h:=Px (now:=now) (a:=-4398046511104) (b:=-1152921504606846976) (by decide) (by decide) s.abs.fly (fun f d=>by
    obtain ⟨g,i,e⟩:=List.mem_map.1 d
    rw [← e]; exact c.ats g i)
  unfold Nn againS;rw [h]
theorem Py (B p : Nat) (s : Rs) (now ago : Int) (w : World) (hS : RefAt B w p s) (hB : B ≤ w.heap.size) : Calls Tryz.prog 73 #[.pointer (some ⟨p,0,none⟩),.int .i64 now,.int .i64 ago] w (Pw B p s now ago w):=by
 have n : Mod [143] [] B w w:=.refl _ _ _ _;have o:=hS.top;have cp:=hS.fly.len;refine Bw Tryz.func73 Tryz.ntmps73 fun _ l=>?_;refine pr l fun _ l=>?_;refine pr l fun _ l=>?_;refine wp_seq_k fun _ k1=>?_;refine pr l fun _ l=>?_;refine wp_block ?_;refine C.loop (fun gk a W=>∃ (k : Nat) (dn rs : List Fc) (Ao : Option Addr) (co : Nat) (a0 : List Pc),k + gk = s.fly.length ∧ dn.length = k ∧ rs = s.fly.drop k ∧ FlyR B W s.FA s.fc (dn ++ rs) ∧ againF now ago (s.fly.map Fc.abs) = (dn.map Fc.abs ++ (againF now ago (rs.map Fc.abs)).1,a0.map (·.p) ++ (againF now ago (rs.map Fc.abs)).2) ∧ dn.map (·.id) = (s.fly.take k).map (·.id) ∧ (∀ f ∈ dn,-1099511627776 ≤ f.at_ ∧ f.at_ ≤ 1099511627776) ∧ PkAt B w W Ao co a0 ∧ a0.length ≤ k ∧ Mod [143] [] B w W ∧ Blk W p 111 s.cells ∧ Fr 59 a [(0,.pointer (some ⟨p,0,none⟩)),(1,.int .i64 now),(2,.int .i64 ago),(7,.slice Ao a0.length co),(8,.int .i64 k)]) (s.fly.length) ?_ ?_
 ·exact ⟨0,[],s.fly,none,0,[],by omega,rfl,rfl,hS.fly,by simp,rfl,by simp,PkAt.nil _ _ _,by simp,n,o,l.sub (sx (sx (sx (sx (sx sn)))))⟩
 intro ag _ w1 hI ch a8;obtain ⟨k,dn,rs,Ao,co,a0,hk,ap,ar,FL,hq,a3,a2,r,ct,n,o,d⟩:=hI
 try clear l
 have bu:=n.size;refine wp_seq_k fun _ k2=>?_;refine pr d fun _ l=>?_;refine l.sD 16 rfl (fun h0 l=>?_) (fun h0 l=>?_)
 ·obtain ⟨f,a9⟩ : ∃ f,s.fly[k]? = some f:=⟨s.fly[k]'(by omega),List.getElem?_eq_getElem _⟩;have aq:=List.mem_of_getElem? a9;obtain ⟨a7,a4,au⟩:=y0c ar a9;subst au;have hf : (dn ++ f :: a7)[k]? = some f:=by rw [← ap]; simp
  have c6 : (dn ++ f :: a7).length = s.fly.length:=by simp; have:=congrArg List.length a4; simp at this; omega
  obtain ⟨b,bt,hA⟩:=(Sl.oO FL.own).addr (by omega);have bq:=hS.ats f aq;have cr:=I3 now;have cm:=(FL.own.blk b (by rw [hA]; rfl)).1;refine C.cT l rfl ?_;refine wp_skip (k2 _ _ ?_);have d:=l.pk [0,1,2,7,8,10,11,12,13,14,15,16];refine wp_seq_k fun _ k2=>?_;refine wp_block ?_;refine C.sk fun _ k3=>?_;(iterate 6 refine L.s d fun _ d=>?_);refine L.va d (E.loadR d U143 rfl Z71 rfl (Sl.row (i:=k) (cs:=rcell f) (Sl.oO FL.own) (by omega) hA (Fk rcell 7 (fun _=>rfl) (dn ++ f :: a7) k f hf)) rfl) fun _ d=>?_;refine L.alloc d Aa (by decide) (z:=(.agg #[(.int .i64 0),(.int .i64 0),(.string ⟨#[]⟩),(.slice none 0 0),(.int .i64 0),(.bool false),(.bool false)])) (fun _=>by kernel_rfl) rfl fun _ w2 g1 N d=>?_;obtain ⟨g,q,ax,c7,ca⟩:=N.al;have bz:=n.lo ax;have ba : p ≠ g1:=by have:=o.lt; omega
  replace n:=n.trans (.o0 q);replace o:=o.z q;replace FL:=FL.mod (Mod.o0 (T:=[]) (M:=[]) (B:=B) q) (by decide);replace r:=r.mod (Mod.o0 (T:=[]) (M:=[]) (B:=B) q) (by decide);clear N q;refine L.storeR d Aa Z71 rfl rfl rfl g rfl rfl fun _ w3 d bk a6=>?_;have cb:=a6.size;replace n:=n.kN a6 (by simp; omega);replace o:=o.kn a6;replace FL:=FL.knew a6 g (by omega) (fun b' aa e=>by rw [hA] at aa; injection aa with aa; simp at aa; omega);replace r:=r.mod (Mod.o1 (M:=[]) (B:=B) a6 g (by omega)) (by decide);replace g:=bk;clear a6;refine wn k3 ?_;refine wp_seq_k fun _ k3=>?_;refine wp_seq_k fun _ k4=>?_;refine R.begin (S:=fun W=>Kept [] w3 W) (by kernel_rfl) (by exact (Kept.refl _ _).drewN 1) ?_;have u:=dk w3 1;have br:=dk w3 1;obtain ⟨w4,ab⟩ : ∃ W,W = w3.drewN 1:=⟨_,rfl⟩;rw [← ab] at u br ⊢;clear ab;have cc:=u.size;refine rq [0,2,3,5] d fun _ d=>?_;refine R.cl 1 d rfl (Dt d Tryz.call15) (Fw now _) ?_;rintro e cw ⟨rfl,rfl⟩;refine ⟨_,rfl,u,fun _ d=>?_⟩;refine rq [4,6] d fun _ d=>?_;have bv:=u.size;replace n:=n.trans (.o0 u);replace o:=o.z u;replace FL:=FL.mod (Mod.o0 (T:=[]) (M:=[]) (B:=B) u) (by decide);replace r:=r.mod (Mod.o0 (T:=[]) (M:=[]) (B:=B) u) (by decide);replace g:=g.z u;clear u;refine R.dn k4 ?_
  refine C.sp d (fun h1 d=>?_) (fun h1 d=>?_)
  ·have cq:=h1;refine wp_exit (k2 _ _ ?_);have h:=d.pk [0,1,2,7,8,9,10,11,12,13,14,15,16,19,20,21,22,23,24,25,26,27,28,29,30,31,32];refine C.region ?_;(iterate 3 refine L.s h fun _ h=>?_);refine wpList_nil (a8 _ _ (ag - 1) ?_ ?_)
   ·omega
   exact ⟨k + 1,dn ++ [f],a7,Ao,co,a0,by omega,by simp; omega,a4,by simpa using FL,by rw [hq]; exact Xf (by omega),Mn a3 a9 rfl,Mo a2 (hS.ats f aq),r,by omega,n,o,by simpa using h.sub (sx (sx (sx (sx (sx sn)))))⟩
  have cn:=h1;refine wp_skip (k3 _ _ ?_);refine wp_seq_k fun _ k3=>?_;refine RB.begin (S:=fun W=>Kept [] w4 W) 7 (by kernel_rfl) (by exact (Kept.refl _ _).drewN 1) ?_;have u:=dk w4 1;have bs:=dk w4 1;obtain ⟨w5,ac⟩ : ∃ W,W = w4.drewN 1:=⟨_,rfl⟩;rw [← ac] at u bs ⊢;clear ac;have cd:=u.size;refine rb [0,1,2,3,4,5] d fun _ d=>?_;refine RB.cl 6 d rfl (Dt d Tryz.call15) (Fw now _) ?_;rintro e cx ⟨rfl,rfl⟩;refine ⟨_,rfl,u,fun _ d=>?_⟩;refine RB.stop (by kernel_rfl) ?_;have bw:=u.size;replace n:=n.trans (.o0 u);replace o:=o.z u;replace FL:=FL.mod (Mod.o0 (T:=[]) (M:=[]) (B:=B) u) (by decide);replace r:=r.mod (Mod.o0 (T:=[]) (M:=[]) (B:=B) u) (by decide);replace g:=g.z u;clear u;refine rq [7,8] d fun _ d=>?_;refine R.on 9 ?_;refine OT.storeO d rfl Aa Z0 (j:=k * 7 + 1) hA FL.own rfl (show bt + (k : Int).toNat * 7 + 1 = _ by omega) (by rw [Fx]; omega) rfl rfl fun _ w6 d ak ks=>?_;have ce:=ks.size;have KM : Mod [143] [] B _ w6:=.of_own1 hA ks FL.own hS.fly.loA (by simp);have t:=FL.seg hf (f':={ f with at_:=Bf now }) KM ap ak rfl rfl;replace g:=g.kept ks (by simp; omega);replace n:=n.step KM (by decide) (by simp) (by omega);replace o:=o.mod KM (by decide);replace r:=r.mod KM (by decide);clear ks KM ak;refine R.dn k3 ?_;refine pr d fun _ d=>?_
  refine C.sb d (fun h2 d=>?_) (fun h2 d=>?_)
  ·have ai:=h2;refine C.region ?_;refine L.s d fun _ h=>?_;(iterate 2 refine L.s h fun _ h=>?_);refine L.bd h (Z81 _ _) fun _ h=>?_;refine L.buildSlice h Aa (by decide) (pL h rfl) U69 Zo rfl rfl (Zn ⟨Bq 6 f.id,none,0⟩) fun _ w7 g6 N h=>?_;obtain ⟨bi,q,ay,c8,b3⟩:=N.al;have c0:=n.lo ay;have bb : p ≠ g6:=by have:=o.lt; omega
   have b0 : g1 ≠ g6:=by have:=g.lt; omega
   replace n:=n.trans (.o0 q);replace o:=o.z q;replace r:=r.mod (Mod.o0 (T:=[]) (M:=[]) (B:=B) q) (by decide);replace t:=t.mod (Mod.o0 (T:=[]) (M:=[]) (B:=B) q) (by decide);replace g:=g.z q;clear N q;refine L.append h Aa (by decide) U69 Z51 rfl rfl rfl rfl (r.fr.own) ((show Sl _ _ 1 24 (pcell ⟨Bq 6 f.id,none,0⟩) from Pm bi rfl)) (I5 _) (by unfold maxLen; omega) (by omega) fun _ w8 A2 c2 ad h=>?_;have v : Mod [39] [] B w7 w8:=.of_app ad r.fr.own (fun a ha=>Nat.le_trans hB (r.fr.from a ha)) (by simp);have af:=r.push (x:=⟨Bq 6 f.id,none,0⟩) ad n.size hB (Pay.nil _ _ _);replace n:=n.app_new ad r.fr;have b4:=v.size;replace o:=o.mod v (by decide);replace t:=t.mod v (by decide);replace g:=g.mod v (by decide);clear v;refine pe h k2 fun _ h=>?_;refine C.region ?_;(iterate 3 refine L.s h fun _ h=>?_);refine wpList_nil (a8 _ _ (ag - 1) ?_ ?_)
   ·omega
   exact ⟨k + 1,dn ++ [{ f with at_:=Bf now }],a7,A2,c2,a0 ++ [⟨Bq 6 f.id,none,0⟩],by omega,by simp; omega,a4,by simpa using t,by rw [hq]; exact Ve (by omega) (by rw [show f.rc = true from ai]; rfl),Mn a3 a9 rfl,Mo a2 (I3 now),by simpa using af,by simp; omega,n,o,by simpa using h.sub (sx (sx (sx (sx (sx sn)))))⟩
  have ai:=h2;refine C.region ?_;(iterate 2 refine L.s d fun _ d=>?_);refine L.va d (E.loadR d U58 rfl Zw rfl ((g.part 2 (mcell f.x) rfl)) rfl) fun _ d=>?_;(iterate 2 refine L.s d fun _ d=>?_);refine L.cl d (Ji d Tryz.call69) (Hw f.x.m f.x.A f.x.c f.id true _) ?_;rintro e w7 ⟨q,rfl⟩;refine ⟨_,rfl,fun _ d=>?_⟩;have b3:=q.size;replace n:=n.trans (.o0 q);replace o:=o.z q;replace r:=r.mod (Mod.o0 (T:=[]) (M:=[]) (B:=B) q) (by decide);replace t:=t.mod (Mod.o0 (T:=[]) (M:=[]) (B:=B) q) (by decide);replace g:=g.z q;clear q;refine L.buildSlice d Aa (by decide) (pL d rfl) U69 Zo rfl rfl (Zn ⟨D0 f.x.m f.id true,f.x.A,f.x.c⟩) fun _ w8 g7 N d=>?_;obtain ⟨bj,q,az,c9,b4⟩:=N.al;have c1:=n.lo az;have bc : p ≠ g7:=by have:=o.lt; omega
  have b1 : g1 ≠ g7:=by have:=g.lt; omega
  replace n:=n.trans (.o0 q);replace o:=o.z q;replace r:=r.mod (Mod.o0 (T:=[]) (M:=[]) (B:=B) q) (by decide);replace t:=t.mod (Mod.o0 (T:=[]) (M:=[]) (B:=B) q) (by decide);replace g:=g.z q;clear N q;refine L.append d Aa (by decide) U69 Z51 rfl rfl rfl rfl (r.fr.own) ((show Sl _ _ 1 24 (pcell ⟨D0 f.x.m f.id true,f.x.A,f.x.c⟩) from Pm bj rfl)) (I5 _) (by unfold maxLen; omega) (by omega) fun _ w9 A2 c2 ae d=>?_;have y : Mod [39] [] B w8 w9:=.of_app ae r.fr.own (fun a ha=>Nat.le_trans hB (r.fr.from a ha)) (by simp);have af:=r.push (x:=⟨D0 f.x.m f.id true,f.x.A,f.x.c⟩) ae n.size hB (t.pay { f with at_:=Bf now } (List.mem_append_right dn List.mem_cons_self));replace n:=n.app_new ae r.fr;have cf:=y.size;replace o:=o.mod y (by decide);replace t:=t.mod y (by decide);replace g:=g.mod y (by decide);clear y;refine pe d k2 fun _ d=>?_;refine C.region ?_;(iterate 3 refine L.s d fun _ d=>?_);refine wpList_nil (a8 _ _ (ag - 1) ?_ ?_)
  ·omega
  exact ⟨k + 1,dn ++ [{ f with at_:=Bf now }],a7,A2,c2,a0 ++ [⟨D0 f.x.m f.id true,f.x.A,f.x.c⟩],by omega,by simp; omega,a4,by simpa using t,by rw [hq]; exact Ve (by omega) (by rw [show f.rc = false from ai]; rfl),Mn a3 a9 rfl,Mo a2 (I3 now),by simpa using af,by simp; omega,n,o,by simpa using d.sub (sx (sx (sx (sx (sx sn)))))⟩
 refine C.cF l rfl ?_;refine wp_exit (k1 _ _ ?_);refine rt l ?_;exact Xp hS ar FL hq a3 a2 r n o (by omega)
theorem Hy (B p : Nat) (s : Rs) (now : Int) (w : World) (n : RefAt B w p s) (l : B ≤ w.heap.size) : Calls Tryz.prog 41 #[.pointer (some ⟨p,0,none⟩),.int .i64 now] w (Hi [111,185,143,160] B p s (againS s.abs now 8) w):=by
 refine Bw Tryz.func41 Tryz.ntmps41 fun _ f=>?_;refine pr f fun _ f=>?_;refine C.sk fun _ k=>?_;(iterate 2 refine L.s f fun _ f=>?_);refine L.cl f (Ji f Tryz.call73) (Py B p s now 8 _ n l) ?_;rintro e t ⟨r,h,j,d,rfl,a,b,c,m,q,i,o⟩;refine ⟨_,rfl,fun _ f=>?_⟩;have g:=q.size;refine re f k ?_;exact ⟨r,h,j,d,rfl,a,by rw [b,c],m,q.mono (by decide) (by simp) (Nat.le_refl _),i,by omega⟩
theorem M7 (B p : Nat) (s : Rs) (now : Int) (w : World) (hS : RefAt B w p s) (r : B ≤ w.heap.size) : Calls Tryz.prog 59 #[.pointer (some ⟨p,0,none⟩),.int .i64 now] w (Hi [111,185,143,160] B p s (Nn s.abs now) w):=by
 have c : Mod [111,185,143,160] [s.im,s.gm] B w w:=.refl _ _ _ _;refine Bw Tryz.func59 Tryz.ntmps59 fun _ f=>?_;refine pr f fun _ f=>?_;refine C.sk fun _ k=>?_;(iterate 2 refine L.s f fun _ f=>?_);refine L.cl f (Ji f Tryz.call73) (Py B p s now (-1152921504606846976) _ hS r) ?_;rintro e w1 ⟨s2,A2,c2,y,rfl,n,u,x,z,q,i,a9⟩;refine ⟨_,rfl,fun _ f=>?_⟩;have a2:=q.size;replace c:=c.step q (by decide) (by simp) (by omega);clear q;refine pe f k fun _ f=>?_;refine C.sk fun _ k=>?_;(iterate 3 refine L.s f fun _ f=>?_);refine L.cl f (Bm f Tryz.call86) (Pr B p s2 now _ n (by omega)) ?_;rintro e w2 ⟨s3,A3,c3,m,rfl,h,l,d,t,q,j⟩;rw [z.im] at q;have v:=congrArg List.length d;rw [List.length_map] at v;have a8:=Po s2.abs now;refine ⟨_,rfl,fun _ f=>?_⟩;have a3:=q.size;replace c:=c.step q (by decide) (by simp) (by omega);replace i:=i.mod q (by decide);clear q;refine L.append f Aa (by decide) U69 Z51 rfl rfl rfl rfl (i.fr.own) (j.fr.sl) (Xg _) (by unfold maxLen; omega) (by omega) fun _ w3 A4 c4 g f=>?_;have b : Mod [39] [] B w2 w3:=.of_app g i.fr.own (fun a ha=>Nat.le_trans r (i.fr.from a ha)) (by simp);have o:=i.app g c.size r j.pay;replace c:=c.app_new g i.fr;have a4:=b.size;replace h:=h.mod b (by decide);clear b;refine re f k ?_
 exact ⟨s3,A4,c4,y ++ m,by simp,h,by rw [Xq hS,← u,l,List.map_append,x,d],z.trans t (by omega),c,o,by simp; omega⟩
end Go.Proofs.YtkdeedhjkjffpaaGreat
namespace Go.Proofs.YtkdeedhjkjffpaaGreat
open Go.RowKit Go.Hub Go.Lib
theorem Z91 (a : ByteArray) (b : Option Addr) (c : Option Addr) (d : Option Nat) : Tryz.prog.built 111 [(0,.string a),(2,.pointer b),(3,.pointer c),(5,.map d)] = some #[.string a,(.slice none 0 0),.pointer b,.pointer c,(.slice none 0 0),.map d]:=by kernel_rfl
theorem Za1 : (Tryz.prog.info? 79).map (fun i=>(i.zero,i.size)) = some (some (.agg #[(.string ⟨#[]⟩),(.int .i64 0)]),2):=by kernel_rfl
theorem Zb1 (a b : Value) : Instr.fill (fun i=>some (i * 2,2)) ((Array.range (1 * 2)).map fun j=>(Value.cells (.agg #[(.string ⟨#[]⟩),(.int .i64 0)]))[j % (Value.cells (.agg #[(.string ⟨#[]⟩),(.int .i64 0)])).size]!) [(0,.agg #[a,b])] = some #[a,b]:=by kernel_rfl
theorem Zc1 (a : ByteArray) (b : Int) : Tryz.prog.built 79 [(0,.string a),(1,.int .i64 b)] = some #[.string a,.int .i64 b]:=by kernel_rfl
theorem x6g (l : FE) : (l.flatMap scp).length = l.length * 2:=N0 scp 2 (fun _=>rfl) l
theorem H9 {w : World} {A : Option Addr} {l : FE} {b a k : Nat} {x : ByteArray × Int} (S : Sl w A l.length 2 (l.flatMap scp)) (g : A = some ⟨b,a,none⟩) (c : l[k]? = some x) (j : Nat) {v : Value} (d : (scp x)[j]? = some v) : w.cell? ⟨b,a + (k : Int).toNat * 2 + j,none⟩ = some v:=by
  have o:=(List.getElem?_eq_some_iff.1 c).1;obtain ⟨i,f,e,m,h⟩:=S.2 (by omega);rw [g] at e
  injection e with e
  injection e with e1 e2
  subst e1 e2;have n : j < 2:=(List.getElem?_eq_some_iff.1 d).1;rw [Int.toNat_natCast,Nat.add_assoc];refine h _ v ?_;rw [Ka scp 2 (fun _=>rfl),show (k * 2 + j) / 2 = k by omega,show (k * 2 + j) % 2 = j by omega,c];exact d
theorem Xr {l : FE} {a : ByteArray} {k : Nat} {x : ByteArray × Int} (h : ∀ p ∈ l.take k,I4 p.1 a) (c : l[k]? = some x) (b : Op.bytesLess x.1.toList a.toList = true) : ∀ p ∈ l.take (k + 1),I4 p.1 a:=fun p hp=>by
  rw [List.take_add_one,c] at hp
  rcases List.mem_append.1 hp with hp | hp
  · exact h p hp
  obtain rfl : p = x:=by simpa using hp
  exact b
theorem LsR.set {B : Nat} {w w' : World} {A : Option Addr} {c k : Nat} {l : FE} {x : ByteArray × Int} {b : ByteArray} {q : Int} (h : LsR B w A c l) (d : l[k]? = some x) (e : x.1 = b) (O : Own w' 79 2 (.slice A l.length c) l.length ((l.flatMap scp).set (k * 2 + 1) (.int .i64 q))) : LsR B w' A c (l.set k (b,q)):=by
  have a:=(List.getElem?_eq_some_iff.1 d).1
  have f : (l.flatMap scp).set (k * 2 + 1) (.int .i64 q) = (l.set k (b,q)).flatMap scp:=by
    have : ∀ (l : FE) (k : Nat),l[k]? = some x → (l.flatMap scp).set (k * 2 + 1) (.int .i64 q) = (l.set k (b,q)).flatMap scp:=by
      intro l
      induction l with
      | nil=>intro k a; simp at a
      | cons y r ih=>
        intro k a
        cases k with
        | zero=>
          obtain rfl : y = x:=by simpa using a
          subst e
          rfl
        | succ k=>
          rw [List.set_cons_succ,List.flatMap_cons,List.flatMap_cons,← ih k (by simpa using a),List.set_append_right _ _ (by rw [Y2]; omega),Y2,show (k + 1) * 2 + 1 - 2 = k * 2 + 1 by omega]
    exact this l k d
  rw [f] at O;exact ⟨by rw [List.length_set]; exact O,h.loA⟩
def Vo (B : Nat) (cl : ByteArray) (w : World) (e : Ending) (w' : World) : Prop:=∃ p s,e = .returned (.pointer (some ⟨p,0,none⟩)) ∧ RefAt B w' p s ∧ s.abs = Vd ∧ s.cl = cl ∧ s.ls = [] ∧ s.QA = none ∧ w.heap.size ≤ s.im ∧ w.heap.size ≤ s.gm ∧ Mod [] [] B w w'
theorem x6h {B : Nat} {cl : ByteArray} {w W : World} {p d c q a : Nat} (b : B ≤ w.heap.size) (k : Mod [] [] B w W) (i : Blk W p 111 #[.string cl, .slice none 0 0, .pointer (some ⟨d, 0, none⟩), .pointer (some ⟨q, 0, none⟩), .slice none 0 0, .map (some a)])
    (l : IdsR W d c [] (Yz 65535 65535) 0) (j : Blk W q 160 #[.int .i64 (Yz 8 65536),.int .i64 0,.slice none 0 0]) (m : IsSet Tryz.prog 3 4 W a []) (n : w.heap.size ≤ p) (o : w.heap.size ≤ d) (g : w.heap.size ≤ c) (r : w.heap.size ≤ q) (h : w.heap.size ≤ a) (f : c ≠ a) : Vo B cl w (.returned (.pointer (some ⟨p,0,none⟩))) W:=
  ⟨p,⟨cl,[],none,0,d,c,q,a,[],0,[],none,0,[],none,0,0,[]⟩,rfl,⟨i,l,⟨j,Own.nil _ _ _,by simp,Nat.le_trans b r,by simp,by simp⟩,⟨Own.nil _ _ _,by simp,by simp,by simp⟩,⟨Own.nil _ _ _,by simp⟩,m,f,Nat.le_trans b n,Nat.le_trans b o,Nat.le_trans b g,Nat.le_trans b h,by simp,List.Perm.nil,by simp,by simp⟩,rfl,rfl,rfl,rfl,g,h,k⟩
structure Rs.LikeL (s s' : Rs) : Prop where
  abs : s'.abs = s.abs
  QA : s'.QA = s.QA
  im : s'.im = s.im
  gm : s'.gm = s.gm
  cl : s'.cl = s.cl
def LFar (w w' : World) (A : Option Addr) : Prop:=∀ k,k < w.heap.size → Typ w k [79] → (∀ b,A.map (·.block) = some b → b ≠ k) → w'.heap[k]? = w.heap[k]?
theorem LFar.mod {w w1 g : World} {A : Option Addr} {T : List TypeId} {M : List Nat} {B : Nat} (h : LFar w w1 A) (l : Mod T M B w1 g) (i : (79 : TypeId) ∉ T) (m : w.heap.size ≤ w1.heap.size:=by omega) : LFar w g A:=fun k d f b=>by
  have c:=h k d f b
  have a : Typ w1 k [79]:=f.of_eq c
  exact (l.block k (Nat.lt_of_lt_of_le d m) (.inr ⟨IdB a i,fun j=>a.not_map j.1⟩)).trans c
theorem LFar.own1 {w w1 f : World} {A : Option Addr} {b c : Nat} (h : LFar w w1 A) (g : A = some ⟨b,c,none⟩) (m : Kept [b] w1 f) (j : w.heap.size ≤ w1.heap.size) : LFar w f A:=fun k d l a=>
  (m.block k (Nat.lt_of_lt_of_le d j) (fun i=>a b (by rw [g]; rfl) (List.mem_singleton.1 i).symm)).trans (h k d l a)
def Km (B p : Nat) (s : Rs) (fb : ByteArray) (q : Int) (w : World) (e : Ending) (w' : World) : Prop:=
  ∃ (s' : Rs) (b : Bool),e = .returned (.bool b) ∧ RefAt B w' p s' ∧ s.LikeL s' ∧ Mod [111,79] [] B w w' ∧ ((okF fb q ∧ s'.ls = Gv s.ls fb q ∧ b = !Ng s.ls fb) ∨ (¬ okF fb q ∧ s'.ls = s.ls ∧ b = false)) ∧ LFar w w' s.LA ∧ Jw w s.LA s'.LA
theorem RefAt.lsR {B p : Nat} {w W : World} {s : Rs} {l : FE} {A : Option Addr} {c : Nat} (h : RefAt B w p s) (a : Mod [111,79] [] B w W) (b : Blk W p 111 #[.string s.cl,.slice A l.length c,.pointer (some ⟨s.ip,0,none⟩),.pointer (some ⟨s.q,0,none⟩),.slice s.FA s.fly.length s.fc,.map (some s.gm)]) (L : LsR B W A c l) : RefAt B W p { s with ls:=l,LA:=A,lc:=c }:=
  ⟨b,h.ids.mod a (by decide) (by simp),h.qu.mod a (by decide),h.fly.mod a (by decide),L,h.got.mod a (by simp),h.ne,h.lop,h.loi,h.lom,h.log,h.tk,h.perm,h.ats,h.idb⟩
section
variable {B p : Nat} {w W : World} {s : Rs} {fb : ByteArray} {q : Int}
theorem T1 (g : RefAt B w p s) (b : Mod [111,79] [] B w W) (c : Blk W p 111 s.cells) (h : ¬ okF fb q) (d : LsR B W s.LA s.lc s.ls) (a : LFar w W s.LA) : Km B p s fb q w (.returned (.bool false)) W:=
  ⟨{ s with ls:=s.ls,LA:=s.LA,lc:=s.lc },false,rfl,g.lsR b c d,⟨rfl,rfl,rfl,rfl,rfl⟩,b,.inr ⟨h,rfl,rfl⟩,a,fun _ f=>.inl f⟩
theorem x6i {l : FE} (i : RefAt B w p s) (c : Mod [111,79] [] B w W) (d : Blk W p 111 s.cells) (f : LsR B W s.LA s.lc l) (b : okF fb q) (h : Gv s.ls fb q = l) (k : l.length = s.ls.length) (j : Ng s.ls fb = true) (a : LFar w W s.LA) : Km B p s fb q w (.returned (.bool false)) W:=
  ⟨{ s with ls:=l,LA:=s.LA,lc:=s.lc },false,rfl,i.lsR c (by rw [k]; exact d) f,⟨rfl,rfl,rfl,rfl,rfl⟩,c,.inl ⟨b,h.symm,by rw [j]; rfl⟩,a,fun _ g=>.inl g⟩
theorem Kn {A : Option Addr} {c k n : Nat} (v : RefAt B w p s) (u : B ≤ w.heap.size) (i : Mod [111, 79] [] B w W) (g : Blk W p 111 #[.string s.cl, .slice A n c, .pointer (some ⟨s.ip, 0, none⟩), .pointer (some ⟨s.q, 0, none⟩), .slice s.FA s.fly.length s.fc, .map (some s.gm)])
    {l : Nat} (b : Fresh w W 79 2 A l c ([] ++ (s.ls.flatMap scp).take (k * 2) ++ [(fb,q)].flatMap scp ++ (s.ls.flatMap scp).drop (k * 2))) (hk : k ≤ s.ls.length) (f : okF fb q) (z : n = l ∧ n = s.ls.length + 1) (h : Gv s.ls fb q = s.ls.take k ++ (fb,q) :: s.ls.drop k) (y : Ng s.ls fb = false) (d : LFar w W s.LA) : Km B p s fb q w (.returned (.bool true)) W:=by
  obtain ⟨rfl,rfl⟩:=z
  have hx : [] ++ (s.ls.flatMap scp).take (k * 2) ++ [(fb,q)].flatMap scp ++ (s.ls.flatMap scp).drop (k * 2) = (Gv s.ls fb q).flatMap scp:=by
    have o:=Iv scp 2 (fun _=>rfl) s.ls k;have r:=Iw scp 2 (fun _=>rfl) s.ls k;rw [h];simp only [List.flatMap_append,o,r,List.flatMap_cons,List.flatMap_nil,List.append_nil,List.nil_append,List.append_assoc]
  have j : s.ls.length + 1 = (Gv s.ls fb q).length:=by rw [h]; simp; omega
  rw [hx,j] at b;rw [j] at g;exact ⟨{ s with ls:=Gv s.ls fb q,LA:=A,lc:=c },true,rfl,v.lsR i g ⟨b.own,fun a x=>Nat.le_trans u (b.from a x)⟩,⟨rfl,rfl,rfl,rfl,rfl⟩,i,.inl ⟨f,rfl,by rw [y]; rfl⟩,d,fun m t=>.inr (b.lo m t)⟩
theorem Pz {l : FE} {k : Nat} {x : ByteArray × Int} (h : ∀ p ∈ l.take k,p.1 ≠ fb) (b : l[k]? = some x) (a : ¬ x.1 = fb) : ∀ p ∈ l.take (k + 1),p.1 ≠ fb:=fun p hp=>by
  rw [List.take_add_one,b] at hp
  rcases List.mem_append.1 hp with hp | hp
  · exact h p hp
  obtain rfl : p = x:=by simpa using hp
  exact a
def T3 (B p : Nat) (s : Rs) (fb : ByteArray) (w : World) (e : Ending) (w' : World) : Prop:=
  ∃ s' : Rs,e = .returned (.bool (Ng s.ls fb)) ∧ RefAt B w' p s' ∧ s.LikeL s' ∧ Mod [111] [] B w w' ∧ s'.ls = Sx s.ls fb
theorem x6j (d : RefAt B w p s) (a : Mod [111] [] B w W) (b : Blk W p 111 s.cells) (c : LsR B W s.LA s.lc s.ls) (h : ∀ p ∈ s.ls,p.1 ≠ fb) : T3 B p s fb w (.returned (.bool false)) W:=by
  have f : Ng s.ls fb = false:=by rw [Ng,List.any_eq_false]; intro y g; simpa using h y g
  exact ⟨{ s with ls:=s.ls,LA:=s.LA,lc:=s.lc },by rw [f],d.lsR (a.mono (by decide) (by simp) (Nat.le_refl _)) b c,⟨rfl,rfl,rfl,rfl,rfl⟩,a,(Ty h).symm⟩
theorem x2k {A : Option Addr} {c k n o : Nat} {x : ByteArray × Int} (u : RefAt B w p s) (t : B ≤ w.heap.size) (j : Mod [111] [] B w W) (i : Blk W p 111 #[.string s.cl, .slice A n c, .pointer (some ⟨s.ip, 0, none⟩), .pointer (some ⟨s.q, 0, none⟩), .slice s.FA s.fly.length s.fc, .map (some s.gm)])
    (d : Fresh w W 79 2 A o c ([] ++ (s.ls.flatMap scp).take (k * 2) ++ (s.ls.flatMap scp).drop (((k : Int) + 1).toNat * 2))) (f : n = o ∧ n = s.ls.length - 1) (r : Jf s.ls) (g : s.ls[k]? = some x) (b : x.1 = fb) : T3 B p s fb w (.returned (.bool true)) W:=by
  have y:=(List.getElem?_eq_some_iff.1 g).1;obtain ⟨rfl,f⟩:=f;have l:=Vf r g b
  have h : [] ++ (s.ls.flatMap scp).take (k * 2) ++ (s.ls.flatMap scp).drop (((k : Int) + 1).toNat * 2) = (Sx s.ls fb).flatMap scp:=by
    rw [← l,List.eraseIdx_eq_take_drop_succ,List.flatMap_append,Iv scp 2 (fun _=>rfl) s.ls k,Iw scp 2 (fun _=>rfl) s.ls (k + 1),show ((k : Int) + 1).toNat = k + 1 by omega]
    rfl
  have m : n = (Sx s.ls fb).length:=by rw [← l,List.length_eraseIdx_of_lt y,f]
  rw [h,m] at d;rw [m] at i;exact ⟨{ s with ls:=Sx s.ls fb,LA:=A,lc:=c },by rw [Xh g b],u.lsR (j.mono (by decide) (by simp) (Nat.le_refl _)) i ⟨d.own,fun a v=>Nat.le_trans t (d.from a v)⟩,⟨rfl,rfl,rfl,rfl,rfl⟩,j,rfl⟩
end
theorem x6k (cl : ByteArray) (B : Nat) (w : World) (hB : B ≤ w.heap.size) : Calls Tryz.prog 58 #[.string cl] w (Vo B cl w):=by
 have b : Mod [] [] B w w:=.refl _ _ _ _;refine Bw Tryz.func58 Tryz.ntmps58 fun _ f=>?_;refine pr f fun _ f=>?_;refine C.sk fun _ k=>?_;refine L.s f fun _ f=>?_;refine L.cl f (Dt f Tryz.call84) (Vh 65535 _) ?_;rintro e w1 ⟨ip,im,rfl,a,d,a6,a7⟩;refine ⟨_,rfl,fun _ f=>?_⟩;have a0:=a.size;replace b:=b.trans (.o0 a);clear a;refine L.cl f (Dt f Tryz.call85) (Xn 8 _) ?_;rintro e w2 ⟨q,rfl,a,g,a8⟩;have v:=(d.mod (Mod.o0 (T:=[]) (M:=[]) (B:=B) a) (by decide) (by simp)).set.lt;refine ⟨_,rfl,fun _ f=>?_⟩;have a1:=a.size;replace b:=b.trans (.o0 a);replace d:=d.mod (Mod.o0 (T:=[]) (M:=[]) (B:=B) a) (by decide) (by simp);clear a;refine L.makeMap f Aa (by decide) 3 4 fun _ w3 o c a h f=>?_;have x:=c.lt;have a2:=a.size;have r:=b.lo h;have l : q ≠ o:=by have:=g.lt; omega
 replace b:=b.trans (.o0 a);replace d:=d.mod (Mod.o0 (T:=[]) (M:=[]) (B:=B) a) (by decide) (by simp);replace g:=g.z a;clear a;refine L.bd f (Z91 _ _ _ _) fun _ f=>?_;refine L.box f Aa (by decide) rfl rfl fun _ w4 u N f=>?_;obtain ⟨n,a,i,y,a3⟩:=N.al;have t:=b.lo i;have m : q ≠ u:=by have:=g.lt; omega
 have j : o ≠ u:=by have:=c.lt; omega
 replace b:=b.trans (.o0 a);replace d:=d.mod (Mod.o0 (T:=[]) (M:=[]) (B:=B) a) (by decide) (by simp);replace g:=g.z a;replace c:=c.kept a (by simp);clear N a;refine re f k ?_;have p : im ≠ o:=by omega
 exact x6h (cl:=cl) hB b n d g c (by omega) (by omega) (by omega) (by omega) (by omega) p
theorem Iq (B p : Nat) (s : Rs) (fb : ByteArray) (q : Int) (w : World) (hS : RefAt B w p s) (hB : B ≤ w.heap.size) (G : Glob w) (cu : fb.size ≤ 100000) (cv : s.ls.length ≤ 1000000) (b2 : Jf s.ls) : Calls Tryz.prog 65 #[.pointer (some ⟨p,0,none⟩),.string fb,.int .i64 q] w (Km B p s fb q w):=by
 have l : Mod [111,79] [] B w w:=.refl _ _ _ _;have o:=hS.top;have r:=hS.ls;have cm:=Gw hS.ls.own;have i : LFar w w s.LA:=fun _ _ _ _=>rfl;refine Bw Tryz.func65 Tryz.ntmps65 fun _ f=>?_;refine pr f fun _ f=>?_;refine wp_seq_k fun _ k1=>C.sk fun _ k2=>?_;refine L.s f fun _ f=>?_;refine L.cl f (Dt f Tryz.call64) (G6 fb _ G (by omega)) ?_;rintro e w1 ⟨q1,rfl⟩;refine ⟨_,rfl,fun _ f=>?_⟩;have co:=q1.size;replace l:=l.trans (.o0 q1);replace o:=o.z q1;replace r:=r.mod (Mod.o0 (T:=[]) (M:=[]) (B:=B) q1) (by decide);replace i:=i.mod (Mod.o0 (T:=[]) (M:=[]) (B:=B) q1) (by decide);clear q1;(iterate 2 refine L.s f fun _ f=>?_);refine f.sB 11 rfl (fun h0 f=>?_) (fun h0 f=>?_)
 ·have c2:=h0;refine L.rn f fun _ d=>?_;refine wn k2 ?_;have d:=d.sub (sv 18 (.bool true) (Ft d [0,1,2,6]));refine C.cT d rfl ?_;refine rt d ?_;exact T1 hS l o (by rintro ⟨e1,e2,e3⟩; (simp_all; done)) r i
 have c2:=h0;(iterate 4 refine L.s f fun _ f=>?_);refine f.sD 15 rfl (fun h1 f=>?_) (fun h1 f=>?_)
 ·have c3:=h1;refine L.rn f fun _ d=>?_;refine wn k2 ?_;have d:=d.sub (sv 18 (.bool true) (Ft d [0,1,2,6]));refine C.cT d rfl ?_;refine rt d ?_;exact T1 hS l o (by rintro ⟨e1,e2,e3⟩; omega) r i
 have c3:=h1;refine pe f k2 fun _ f=>?_;refine C.sp f (fun h2 f=>?_) (fun h2 f=>?_)
 ·have c4:=h2;refine rt f ?_;exact T1 hS l o (by rintro ⟨e1,e2,e3⟩; omega) r i
 have c4:=h2;refine wp_skip (k1 _ _ ?_);refine pr f fun _ f=>?_;refine wp_seq_k fun _ k1=>?_;refine wp_block ?_;have aw : okF fb q:=⟨by simp_all,by omega,by omega⟩;refine C.loop (fun gk a W=>∃ k : Nat,k + gk = s.ls.length ∧ ((∀ p ∈ s.ls.take k,I4 p.1 fb) ∧ LFar w W s.LA) ∧ Mod [111,79] [] B w W ∧ Blk W p 111 s.cells ∧ LsR B W s.LA s.lc s.ls ∧ Fr 89 a [(0,.pointer (some ⟨p,0,none⟩)),(1,.string fb),(2,.int .i64 q),(7,.int .i64 k)]) (s.ls.length) ?_ ?_
 ·exact ⟨0,by omega,⟨by simp,i⟩,l,o,r,f.sub (sx (sx (sx (sx sn))))⟩
 intro bz _ w2 hI cp bm;obtain ⟨k,hk,⟨t,i⟩,l,o,r,d⟩:=hI
 try clear f
 have cw:=l.size;refine wp_seq_k fun _ k2=>C.sk fun _ k3=>?_;refine L.s d fun _ f=>?_;(iterate 7 refine L.s f fun _ f=>?_);refine f.sD 26 rfl (fun h3 f=>?_) (fun h3 f=>?_)
 ·have c6:=h3;obtain ⟨x,hx⟩ : ∃ x,s.ls[k]? = some x:=⟨s.ls[k]'(by omega),List.getElem?_eq_getElem _⟩;obtain ⟨b,cc,hA⟩:=(Sl.oO r.own).addr (by omega);refine L.s f fun _ d=>?_;(iterate 6 refine L.s d fun _ d=>?_);refine L.lo d (H9 (Sl.oO r.own) hA hx 0 rfl) fun _ d=>?_;refine L.s d fun _ d=>?_;refine L.va d (E.lssS d rfl rfl) (hw:=d.y) fun _ d=>?_;refine pe d k3 fun _ d=>?_;refine C.sb d (fun h4 d=>?_) (fun h4 d=>?_)
  ·have ba:=h4;refine wp_skip (k2 _ _ ?_);have h:=d.pk [0,1,2,7,19,20,21,22,23,24,25,26,27,28,29,30,31,32,33,34,35,36,37];refine wp_block ?_;refine C.region ?_;(iterate 3 refine L.s h fun _ h=>?_);refine wpList_nil (bm _ _ (bz - 1) ?_ ?_)
   ·omega
   exact ⟨k + 1,by omega,⟨Xr t hx ba,i⟩,l,o,r,h.sub (sx (sx (sx (sx sn))))⟩
  have ba:=h4;refine wp_exit (k1 _ _ ?_);refine wp_seq_k fun _ k2=>C.sk fun _ k4=>?_;(iterate 8 refine L.s d fun _ d=>?_);refine d.sD 47 rfl (fun h5 h=>?_) (fun h5 h=>?_)
  ·have c9:=h5;(iterate 7 refine L.s h fun _ h=>?_);refine L.lo h (H9 (Sl.oO r.own) hA hx 0 rfl) fun _ h=>?_;refine pe h k4 fun _ h=>?_;refine C.sp h (fun h6 h=>?_) (fun h6 h=>?_)
   ·have bk:=h6;refine wp_seq_k fun _ k4=>?_;have bf : x.1 = fb:=by simpa using bk
    refine C.region ?_;refine L.s h fun _ m=>?_;(iterate 7 refine L.s m fun _ m=>?_);refine L.storeO m Aa Z0 (j:=k * 2 + 1) hA r.own rfl (show cc + (k : Int).toNat * 2 + 1 = _ by omega) (by rw [x6g]; omega) rfl rfl fun _ w3 m bj ks=>?_;have b8:=ks.size;have KM : Mod [79] [] B _ w3:=.of_own1 hA ks r.own r.loA (by simp);have bv:=r.set hx bf bj;have bi:=i.own1 hA ks l.size;replace l:=l.step KM (by decide) (by simp) (by omega);replace o:=o.mod KM (by decide);clear ks KM bj;refine wn k4 ?_;refine rt m ?_;exact x6i hS l o bv aw (Y0 t hx bf) (by simp) (Xh hx bf) bi
   have bk:=h6;refine wp_skip (k2 _ _ ?_);refine wp_seq_k fun _ k2=>?_;have bc : ∀ x,s.ls[k]? = some x → ¬ I4 x.1 fb:=by intro y hy; (rw [hx] at hy; obtain rfl:=Option.some.inj hy; unfold I4; rw [ba]; simp)
   have a7 : ∀ x,s.ls[k]? = some x → ¬ I4 x.1 fb ∧ x.1 ≠ fb:=fun y hy=>⟨bc y hy,fun e=>by (rw [hx] at hy; obtain rfl:=Option.some.inj hy; simp_all; done)⟩;refine RB.begin (S:=fun W=>Kept [] w2 W) 20 (by kernel_rfl) (by exact (Kept.refl _ _).drewN 1) ?_;have g:=dk w2 1;have bb:=dk w2 1;obtain ⟨w3,a9⟩ : ∃ W,W = w2.drewN 1:=⟨_,rfl⟩;rw [← a9] at g bb ⊢;clear a9;have b8:=g.size;refine rb [0,1,2,3,4,5] h fun _ h=>?_;refine RB.p 6 h rfl g (E.slLhi h U36 Z4 rfl rfl (by omega) (by omega) ) fun _ h=>?_;refine rb [8,9] h fun _ h=>?_;refine RB.p 10 h rfl g (E.build h (pL h rfl) (Zc1 _ _)) fun _ h=>?_;refine rb [13,14,15,16,17] h fun _ h=>?_;refine RB.p 18 h rfl g (E.slLlo h U36 Z4 rfl rfl (by omega) (by omega) ) fun _ h=>?_;refine RB.two 7 11 (by kernel_rfl) (by kernel_rfl) ?_ ?_
   ·skip;refine O.append h rfl Aa (by decide) U36 Zb rfl rfl rfl rfl (Own.nil _ _ _) (Sl.oO ((r.mod (Mod.o0 (T:=[]) (M:=[]) (B:=B) g) (by simp)).own.head (k:=k) (by omega))) (fun u hu=>Dk s.ls u (List.mem_of_mem_take hu)) (by unfold maxLen; omega) (by omega) fun _ w4 Ax cx ab=>?_;have a5 : Kept [] w3 w4:=by simpa [Value.ownBlock] using ab.kept
    have FX : Fresh w w4 79 2 Ax (0 + k) cx ([] ++ (s.ls.flatMap scp).take (k * 2)):=ab.next (Fresh.nil w w3 79 2) (Nat.le_trans l.size g.size)
    have a1 : Fresh w2 w4 79 2 Ax (0 + k) cx ([] ++ (s.ls.flatMap scp).take (k * 2)):=ab.next (Fresh.nil w2 w3 79 2) g.size
    have c:=g.trans a5 (by simp);refine ⟨c,fun m=>?_⟩;have ax:=a5.size;clear a5;replace g:=c;clear c;refine RB.one 11 (by kernel_rfl) (by kernel_rfl) ?_;refine O.buildSlice m rfl Aa (by decide) (pL m rfl) U36 Za1 rfl rfl (Zb1 _ _) (fun _ hk=>g.trans hk (by simp)) fun _ w5 g4 N c m=>?_;obtain ⟨b9,q1,bo,bq,ay⟩:=N.al;have bh:=g.size;replace FX:=FX.k0 q1;replace a1:=a1.k0 q1;clear N q1;replace g:=c;clear c;refine RB.one 12 (by kernel_rfl) (by kernel_rfl) ?_;refine O.append m rfl Aa (by decide) U36 Zb rfl rfl rfl rfl (FX.own) ((Y1 (cell:=scp) (fb,q) b9)) (fun v hv=>Dk [(fb,q)] v hv) (by unfold maxLen; omega) (by omega) fun _ w6 Ay cy n=>?_;have c:=n.grow a1 g;have FY:=n.next FX (Nat.le_trans l.size g.size)
    have af:=n.next a1 g.size
    refine ⟨c,fun m=>?_⟩;have az:=n.kept.size;replace g:=c;clear c;refine RB.one 19 (by kernel_rfl) (by kernel_rfl) ?_;refine O.append m rfl Aa (by decide) U36 Zb rfl rfl rfl rfl (FY.own) (Sl.oO ((r.mod (Mod.o0 (T:=[]) (M:=[]) (B:=B) g) (by simp)).own.cut (k:=k) (by omega))) (fun u hu=>Dk s.ls u (List.mem_of_mem_drop hu)) (by unfold maxLen; omega) (by omega) fun _ w7 Az cz a0=>?_;have c:=a0.grow af g;have FZ:=a0.next FY (Nat.le_trans l.size g.size)
    refine ⟨c,fun m=>?_⟩;have b0:=a0.kept.size;replace g:=c;clear c;refine RB.stop (by kernel_rfl) ?_;have ak:=g.size;replace l:=l.trans (.o0 g);replace o:=o.z g;replace r:=r.mod (Mod.o0 (T:=[]) (M:=[]) (B:=B) g) (by decide);replace i:=i.mod (Mod.o0 (T:=[]) (M:=[]) (B:=B) g) (by decide);clear g;refine rq [20,21] m fun _ m=>?_;refine R.on 22 ?_;refine OT.store m rfl Aa Z6 rfl rfl rfl o (by (simp [Value.cells]; done)) fun _ w8 m ah a2=>?_;have b1:=a2.size;have KM:=(Mod.of_blk (T:=[111]) (M:=[]) (B:=B) a2 o hS.lop (by simp));replace l:=l.step KM (by decide) (by simp) (by omega);replace r:=r.mod KM (by decide);replace i:=i.mod KM (by decide);replace FZ:=FZ.mod KM (by decide);replace o:=ah;simp only [Value.cells,List.setIfInBounds_toArray,List.set_cons_zero,List.set_cons_succ,Nat.reduceAdd,Nat.zero_add] at o;clear a2;refine R.dn k2 ?_;have m:=m.sub sn;refine rt m ?_;exact Kn hS hB l o FZ (by omega) aw (by omega) (Im t a7 (by omega)) (Tx b2 t a7) i
   skip;refine O.buildSlice h rfl Aa (by decide) (pL h rfl) U36 Za1 rfl rfl (Zb1 _ _) (fun _ hk=>g.trans hk (by simp)) fun _ w4 g3 N c h=>?_;obtain ⟨ad,q1,bn,bp,ax⟩:=N.al;have bg:=g.size;clear N q1;replace g:=c;clear c;refine RB.one 7 (by kernel_rfl) (by kernel_rfl) ?_;refine O.append h rfl Aa (by decide) U36 Zb rfl rfl rfl rfl (Own.nil _ _ _) (Sl.oO ((r.mod (Mod.o0 (T:=[]) (M:=[]) (B:=B) g) (by simp)).own.head (k:=k) (by omega))) (fun u hu=>Dk s.ls u (List.mem_of_mem_take hu)) (by unfold maxLen; omega) (by omega) fun _ w5 Ax cx ac=>?_;have a3 : Kept [] w4 w5:=by simpa [Value.ownBlock] using ac.kept
   have FX : Fresh w w5 79 2 Ax (0 + k) cx ([] ++ (s.ls.flatMap scp).take (k * 2)):=ac.next (Fresh.nil w w4 79 2) (Nat.le_trans l.size g.size)
   have a1 : Fresh w2 w5 79 2 Ax (0 + k) cx ([] ++ (s.ls.flatMap scp).take (k * 2)):=ac.next (Fresh.nil w2 w4 79 2) g.size
   have c:=g.trans a3 (by simp);refine ⟨c,fun h=>?_⟩;have ay:=a3.size;replace ad:=ad.z a3;clear a3;replace g:=c;clear c;refine RB.one 12 (by kernel_rfl) (by kernel_rfl) ?_;refine O.append h rfl Aa (by decide) U36 Zb rfl rfl rfl rfl (FX.own) ((Y1 (cell:=scp) (fb,q) ad)) (fun v hv=>Dk [(fb,q)] v hv) (by unfold maxLen; omega) (by omega) fun _ w6 Ay cy n=>?_;have c:=n.grow a1 g;have FY:=n.next FX (Nat.le_trans l.size g.size)
   have af:=n.next a1 g.size
   refine ⟨c,fun h=>?_⟩;have az:=n.kept.size;replace g:=c;clear c;refine RB.one 19 (by kernel_rfl) (by kernel_rfl) ?_;refine O.append h rfl Aa (by decide) U36 Zb rfl rfl rfl rfl (FY.own) (Sl.oO ((r.mod (Mod.o0 (T:=[]) (M:=[]) (B:=B) g) (by simp)).own.cut (k:=k) (by omega))) (fun u hu=>Dk s.ls u (List.mem_of_mem_drop hu)) (by unfold maxLen; omega) (by omega) fun _ w7 Az cz a0=>?_;have c:=a0.grow af g;have FZ:=a0.next FY (Nat.le_trans l.size g.size)
   refine ⟨c,fun h=>?_⟩;have b0:=a0.kept.size;replace g:=c;clear c;refine RB.stop (by kernel_rfl) ?_;have ak:=g.size;replace l:=l.trans (.o0 g);replace o:=o.z g;replace r:=r.mod (Mod.o0 (T:=[]) (M:=[]) (B:=B) g) (by decide);replace i:=i.mod (Mod.o0 (T:=[]) (M:=[]) (B:=B) g) (by decide);clear g;refine rq [20,21] h fun _ h=>?_;refine R.on 22 ?_;refine OT.store h rfl Aa Z6 rfl rfl rfl o (by (simp [Value.cells]; done)) fun _ w8 h ah a2=>?_;have b1:=a2.size;have KM:=(Mod.of_blk (T:=[111]) (M:=[]) (B:=B) a2 o hS.lop (by simp));replace l:=l.step KM (by decide) (by simp) (by omega);replace r:=r.mod KM (by decide);replace i:=i.mod KM (by decide);replace FZ:=FZ.mod KM (by decide);replace o:=ah;simp only [Value.cells,List.setIfInBounds_toArray,List.set_cons_zero,List.set_cons_succ,Nat.reduceAdd,Nat.zero_add] at o;clear a2;refine R.dn k2 ?_;have h:=h.sub sn;refine rt h ?_;exact Kn hS hB l o FZ (by omega) aw (by omega) (Im t a7 (by omega)) (Tx b2 t a7) i
  clear d
  exfalso
  omega
 have c6:=h3;refine L.rn f fun _ f=>?_;refine wn k3 ?_;have f:=f.sub (sv 37 (.bool false) (Ft f [0,1,2,7,19,20,21,22,23,24,25,26]));refine C.cF f rfl ?_;refine wp_exit (k1 _ _ ?_);refine wp_seq_k fun _ k1=>C.sk fun _ k2=>?_;(iterate 8 refine L.s f fun _ f=>?_);refine f.sD 47 rfl (fun h7 d=>?_) (fun h7 d=>?_)
 ·clear f
  exfalso
  omega
 have c9:=h7;refine L.rn d fun _ f=>?_;refine wn k2 ?_;have f:=f.sub (sv 58 (.bool false) (Ft f [0,1,2,7]));refine C.cF f rfl ?_;refine wp_skip (k1 _ _ ?_);refine wp_seq_k fun _ k1=>?_;have bc : ∀ x,s.ls[k]? = some x → ¬ I4 x.1 fb:=by intro y hy; (rw [List.getElem?_eq_none (by omega)] at hy; cases hy)
 have a7 : ∀ x,s.ls[k]? = some x → ¬ I4 x.1 fb ∧ x.1 ≠ fb:=fun y hy=>⟨bc y hy,fun e=>by (rw [List.getElem?_eq_none (by omega)] at hy; cases hy)⟩;refine RB.begin (S:=fun W=>Kept [] w2 W) 20 (by kernel_rfl) (by exact (Kept.refl _ _).drewN 1) ?_;have g:=dk w2 1;have bb:=dk w2 1;obtain ⟨w3,a9⟩ : ∃ W,W = w2.drewN 1:=⟨_,rfl⟩;rw [← a9] at g bb ⊢;clear a9;have b8:=g.size;refine rb [0,1,2,3,4,5] f fun _ f=>?_;refine RB.p 6 f rfl g (E.slLhi f U36 Z4 rfl rfl (by omega) (by omega) ) fun _ f=>?_;refine rb [8,9] f fun _ f=>?_;refine RB.p 10 f rfl g (E.build f (pL f rfl) (Zc1 _ _)) fun _ f=>?_;refine rb [13,14,15,16,17] f fun _ f=>?_;refine RB.p 18 f rfl g (E.slLlo f U36 Z4 rfl rfl (by omega) (by omega) ) fun _ f=>?_;refine RB.two 7 11 (by kernel_rfl) (by kernel_rfl) ?_ ?_
 ·skip;refine O.append f rfl Aa (by decide) U36 Zb rfl rfl rfl rfl (Own.nil _ _ _) (Sl.oO ((r.mod (Mod.o0 (T:=[]) (M:=[]) (B:=B) g) (by simp)).own.head (k:=k) (by omega))) (fun u hu=>Dk s.ls u (List.mem_of_mem_take hu)) (by unfold maxLen; omega) (by omega) fun _ w4 Ax cx ab=>?_;have a5 : Kept [] w3 w4:=by simpa [Value.ownBlock] using ab.kept
  have FX : Fresh w w4 79 2 Ax (0 + k) cx ([] ++ (s.ls.flatMap scp).take (k * 2)):=ab.next (Fresh.nil w w3 79 2) (Nat.le_trans l.size g.size)
  have a1 : Fresh w2 w4 79 2 Ax (0 + k) cx ([] ++ (s.ls.flatMap scp).take (k * 2)):=ab.next (Fresh.nil w2 w3 79 2) g.size
  have c:=g.trans a5 (by simp);refine ⟨c,fun d=>?_⟩;have ax:=a5.size;clear a5;replace g:=c;clear c;refine RB.one 11 (by kernel_rfl) (by kernel_rfl) ?_;refine O.buildSlice d rfl Aa (by decide) (pL d rfl) U36 Za1 rfl rfl (Zb1 _ _) (fun _ hk=>g.trans hk (by simp)) fun _ w5 g4 N c d=>?_;obtain ⟨b9,q1,bo,bq,ay⟩:=N.al;have bh:=g.size;replace FX:=FX.k0 q1;replace a1:=a1.k0 q1;clear N q1;replace g:=c;clear c;refine RB.one 12 (by kernel_rfl) (by kernel_rfl) ?_;refine O.append d rfl Aa (by decide) U36 Zb rfl rfl rfl rfl (FX.own) ((Y1 (cell:=scp) (fb,q) b9)) (fun v hv=>Dk [(fb,q)] v hv) (by unfold maxLen; omega) (by omega) fun _ w6 Ay cy n=>?_;have c:=n.grow a1 g;have FY:=n.next FX (Nat.le_trans l.size g.size)
  have af:=n.next a1 g.size
  refine ⟨c,fun d=>?_⟩;have az:=n.kept.size;replace g:=c;clear c;refine RB.one 19 (by kernel_rfl) (by kernel_rfl) ?_;refine O.append d rfl Aa (by decide) U36 Zb rfl rfl rfl rfl (FY.own) (Sl.oO ((r.mod (Mod.o0 (T:=[]) (M:=[]) (B:=B) g) (by simp)).own.cut (k:=k) (by omega))) (fun u hu=>Dk s.ls u (List.mem_of_mem_drop hu)) (by unfold maxLen; omega) (by omega) fun _ w7 Az cz a0=>?_;have c:=a0.grow af g;have FZ:=a0.next FY (Nat.le_trans l.size g.size)
  refine ⟨c,fun d=>?_⟩;have b0:=a0.kept.size;replace g:=c;clear c;refine RB.stop (by kernel_rfl) ?_;have ak:=g.size;replace l:=l.trans (.o0 g);replace o:=o.z g;replace r:=r.mod (Mod.o0 (T:=[]) (M:=[]) (B:=B) g) (by decide);replace i:=i.mod (Mod.o0 (T:=[]) (M:=[]) (B:=B) g) (by decide);clear g;refine rq [20,21] d fun _ d=>?_;refine R.on 22 ?_;refine OT.store d rfl Aa Z6 rfl rfl rfl o (by (simp [Value.cells]; done)) fun _ w8 d ah a2=>?_;have b1:=a2.size;have KM:=(Mod.of_blk (T:=[111]) (M:=[]) (B:=B) a2 o hS.lop (by simp));replace l:=l.step KM (by decide) (by simp) (by omega);replace r:=r.mod KM (by decide);replace i:=i.mod KM (by decide);replace FZ:=FZ.mod KM (by decide);replace o:=ah;simp only [Value.cells,List.setIfInBounds_toArray,List.set_cons_zero,List.set_cons_succ,Nat.reduceAdd,Nat.zero_add] at o;clear a2;refine R.dn k1 ?_;have d:=d.sub sn;refine rt d ?_;exact Kn hS hB l o FZ (by omega) aw (by omega) (Im t a7 (by omega)) (Tx b2 t a7) i
 skip;refine O.buildSlice f rfl Aa (by decide) (pL f rfl) U36 Za1 rfl rfl (Zb1 _ _) (fun _ hk=>g.trans hk (by simp)) fun _ w4 g3 N c f=>?_;obtain ⟨ad,q1,bn,bp,ax⟩:=N.al;have bg:=g.size;clear N q1;replace g:=c;clear c;refine RB.one 7 (by kernel_rfl) (by kernel_rfl) ?_;refine O.append f rfl Aa (by decide) U36 Zb rfl rfl rfl rfl (Own.nil _ _ _) (Sl.oO ((r.mod (Mod.o0 (T:=[]) (M:=[]) (B:=B) g) (by simp)).own.head (k:=k) (by omega))) (fun u hu=>Dk s.ls u (List.mem_of_mem_take hu)) (by unfold maxLen; omega) (by omega) fun _ w5 Ax cx ac=>?_;have a3 : Kept [] w4 w5:=by simpa [Value.ownBlock] using ac.kept
 have FX : Fresh w w5 79 2 Ax (0 + k) cx ([] ++ (s.ls.flatMap scp).take (k * 2)):=ac.next (Fresh.nil w w4 79 2) (Nat.le_trans l.size g.size)
 have a1 : Fresh w2 w5 79 2 Ax (0 + k) cx ([] ++ (s.ls.flatMap scp).take (k * 2)):=ac.next (Fresh.nil w2 w4 79 2) g.size
 have c:=g.trans a3 (by simp);refine ⟨c,fun f=>?_⟩;have ay:=a3.size;replace ad:=ad.z a3;clear a3;replace g:=c;clear c;refine RB.one 12 (by kernel_rfl) (by kernel_rfl) ?_;refine O.append f rfl Aa (by decide) U36 Zb rfl rfl rfl rfl (FX.own) ((Y1 (cell:=scp) (fb,q) ad)) (fun v hv=>Dk [(fb,q)] v hv) (by unfold maxLen; omega) (by omega) fun _ w6 Ay cy n=>?_;have c:=n.grow a1 g;have FY:=n.next FX (Nat.le_trans l.size g.size)
 have af:=n.next a1 g.size
 refine ⟨c,fun f=>?_⟩;have az:=n.kept.size;replace g:=c;clear c;refine RB.one 19 (by kernel_rfl) (by kernel_rfl) ?_;refine O.append f rfl Aa (by decide) U36 Zb rfl rfl rfl rfl (FY.own) (Sl.oO ((r.mod (Mod.o0 (T:=[]) (M:=[]) (B:=B) g) (by simp)).own.cut (k:=k) (by omega))) (fun u hu=>Dk s.ls u (List.mem_of_mem_drop hu)) (by unfold maxLen; omega) (by omega) fun _ w7 Az cz a0=>?_;have c:=a0.grow af g;have FZ:=a0.next FY (Nat.le_trans l.size g.size)
 refine ⟨c,fun f=>?_⟩;have b0:=a0.kept.size;replace g:=c;clear c;refine RB.stop (by kernel_rfl) ?_;have ak:=g.size;replace l:=l.trans (.o0 g);replace o:=o.z g;replace r:=r.mod (Mod.o0 (T:=[]) (M:=[]) (B:=B) g) (by decide);replace i:=i.mod (Mod.o0 (T:=[]) (M:=[]) (B:=B) g) (by decide);clear g;refine rq [20,21] f fun _ f=>?_;refine R.on 22 ?_;refine OT.store f rfl Aa Z6 rfl rfl rfl o (by (simp [Value.cells]; done)) fun _ w8 f ah a2=>?_;have b1:=a2.size;have KM:=(Mod.of_blk (T:=[111]) (M:=[]) (B:=B) a2 o hS.lop (by simp));replace l:=l.step KM (by decide) (by simp) (by omega);replace r:=r.mod KM (by decide);replace i:=i.mod KM (by decide);replace FZ:=FZ.mod KM (by decide);replace o:=ah;simp only [Value.cells,List.setIfInBounds_toArray,List.set_cons_zero,List.set_cons_succ,Nat.reduceAdd,Nat.zero_add] at o;clear a2;refine R.dn k1 ?_;have f:=f.sub sn;refine rt f ?_;exact Kn hS hB l o FZ (by omega) aw (by omega) (Im t a7 (by omega)) (Tx b2 t a7) i
theorem Mu (B p : Nat) (s : Rs) (fb : ByteArray) (w : World) (y : RefAt B w p s) (hB : B ≤ w.heap.size) (b1 : s.ls.length ≤ 1000000) (ac : Jf s.ls) : Calls Tryz.prog 32 #[.pointer (some ⟨p,0,none⟩),.string fb] w (T3 B p s fb w):=by
 have i : Mod [111] [] B w w:=.refl _ _ _ _;have l:=y.top;have j:=y.ls;have a2:=Gw y.ls.own;refine Bw Tryz.func32 Tryz.ntmps32 fun _ f=>?_;refine pr f fun _ f=>?_;refine wp_seq_k fun _ k1=>?_;refine pr f fun _ f=>?_;refine wp_block ?_;refine C.loop (fun gk a W=>∃ k : Nat,k + gk = s.ls.length ∧ (∀ p ∈ s.ls.take k,p.1 ≠ fb) ∧ Mod [111] [] B w W ∧ Blk W p 111 s.cells ∧ LsR B W s.LA s.lc s.ls ∧ Fr 43 a [(0,.pointer (some ⟨p,0,none⟩)),(1,.string fb),(5,.int .i64 k)]) (s.ls.length) ?_ ?_
 ·exact ⟨0,by omega,by simp,i,l,j,f.sub (sx (sx (sx sn)))⟩
 intro a8 _ w1 hI aw a1;obtain ⟨k,hk,m,i,l,j,d⟩:=hI
 try clear f
 have b4:=i.size;refine wp_seq_k fun _ k2=>?_;refine pr d fun _ f=>?_;refine f.sD 12 rfl (fun h0 f=>?_) (fun h0 f=>?_)
 ·have ab:=h0;obtain ⟨x,hx⟩ : ∃ x,s.ls[k]? = some x:=⟨s.ls[k]'(by omega),List.getElem?_eq_getElem _⟩;obtain ⟨b,b3,hA⟩:=(Sl.oO j.own).addr (by omega);refine C.cT f rfl ?_;refine wp_skip (k2 _ _ ?_);have d:=f.pk [0,1,5,6,7,8,9,10,11,12];refine wp_seq_k fun _ k2=>?_;refine wp_block ?_;refine C.sk fun _ k3=>?_;(iterate 7 refine L.s d fun _ d=>?_);refine L.lo d (H9 (Sl.oO j.own) hA hx 0 rfl) fun _ d=>?_;refine pe d k3 fun _ d=>?_;refine C.sp d (fun h1 d=>?_) (fun h1 d=>?_)
  ·have t:=h1;refine wp_seq_k fun _ k3=>?_;refine RB.begin (S:=fun W=>Kept [] w1 W) 16 (by kernel_rfl) (by exact (Kept.refl _ _).drewN 1) ?_;have g:=dk w1 1;have ad:=dk w1 1;obtain ⟨w2,o⟩ : ∃ W,W = w1.drewN 1:=⟨_,rfl⟩;rw [← o] at g ad ⊢;clear o;have aq:=g.size;refine rb [0,1,2,3,4,5] d fun _ c=>?_;refine RB.p 6 c rfl g (E.slLhi c U36 Z4 rfl rfl (by omega) (by omega) ) fun _ c=>?_;refine rb [8,9,10,11,12,13] c fun _ c=>?_;refine RB.p 14 c rfl g (E.slLlo c U36 Z4 rfl rfl (by omega) (by omega) ) fun _ c=>?_;refine RB.one 7 (by kernel_rfl) (by kernel_rfl) ?_;refine O.append c rfl Aa (by decide) U36 Zb rfl rfl rfl rfl (Own.nil _ _ _) (Sl.oO ((j.mod (Mod.o0 (T:=[]) (M:=[]) (B:=B) g) (by simp)).own.head (k:=k) (by omega))) (fun u hu=>Dk s.ls u (List.mem_of_mem_take hu)) (by unfold maxLen; omega) (by omega) fun _ w3 Ax cx q=>?_;have n : Kept [] w2 w3:=by simpa [Value.ownBlock] using q.kept
   have FX : Fresh w w3 79 2 Ax (0 + k) cx ([] ++ (s.ls.flatMap scp).take (k * 2)):=q.next (Fresh.nil w w2 79 2) (Nat.le_trans i.size g.size)
   have a4 : Fresh w1 w3 79 2 Ax (0 + k) cx ([] ++ (s.ls.flatMap scp).take (k * 2)):=q.next (Fresh.nil w1 w2 79 2) g.size
   have h:=g.trans n (by simp);refine ⟨h,fun c=>?_⟩;have ar:=n.size;clear n;replace g:=h;clear h;refine RB.one 15 (by kernel_rfl) (by kernel_rfl) ?_;refine O.append c rfl Aa (by decide) U36 Zb rfl rfl rfl rfl (FX.own) (Sl.ct (Sl.oO (j.mod (Mod.o0 (T:=[]) (M:=[]) (B:=B) g) (by simp)).own) (k:=((k : Int) + 1).toNat) (by omega) a2) (fun u hu=>Dk s.ls u (List.mem_of_mem_drop hu)) (by unfold maxLen; omega) (by omega) fun _ w4 Az cz r=>?_;have h:=r.grow a4 g;have FZ:=r.next FX (Nat.le_trans i.size g.size)
   refine ⟨h,fun c=>?_⟩;have au:=r.kept.size;replace g:=h;clear h;refine RB.stop (by kernel_rfl) ?_;have ai:=g.size;replace i:=i.trans (.o0 g);replace l:=l.z g;replace j:=j.mod (Mod.o0 (T:=[]) (M:=[]) (B:=B) g) (by decide);clear g;refine rq [16,17] c fun _ c=>?_;refine R.on 18 ?_;refine OT.store c rfl Aa Z6 rfl rfl rfl l (by (simp [Value.cells]; done)) fun _ w5 c a7 v=>?_;have av:=v.size;have KM:=(Mod.of_blk (T:=[111]) (M:=[]) (B:=B) v l y.lop (by simp));replace i:=i.step KM (by decide) (by simp) (by omega);replace j:=j.mod KM (by decide);replace FZ:=FZ.mod KM (by decide);replace l:=a7;simp only [Value.cells,List.setIfInBounds_toArray,List.set_cons_zero,List.set_cons_succ,Nat.reduceAdd,Nat.zero_add] at l;clear v;refine R.dn k3 ?_;refine rt c ?_;exact x2k y hB i l FZ (by omega) ac hx t
  have t:=h1;refine wp_skip (k2 _ _ ?_);refine C.region ?_;(iterate 3 refine L.s d fun _ d=>?_);refine wpList_nil (a1 _ _ (a8 - 1) ?_ ?_)
  ·omega
  exact ⟨k + 1,by omega,Pz m hx t,i,l,j,d.sub (sx (sx (sx sn)))⟩
 have ab:=h0;refine C.cF f rfl ?_;refine wp_exit (k1 _ _ ?_);have f:=f.sub sn;refine rt f ?_;exact x6j y i l j (by rw [List.take_of_length_le (by omega)] at m; exact m)
end Go.Proofs.YtkdeedhjkjffpaaGreat
namespace Go.Hub
open Go.RowKit
theorem Fr.any {n : Nat} {a : Act} {l : FL} (f : Fr n a l) (d : Nat) (g : d < n) : ∃ v,Fr n a ((d,v) :: l):=by
  have h : d < a.tmps.size:=by rw [f.size]; exact g
  refine ⟨a.tmps[d],f.defers,f.size,fun i u b=>?_⟩;unfold look at b
  by_cases e : d = i
  · subst e
    simp at b;subst b;simp [h]
  have c : (d == i) = false:=by simpa using e
  rw [c] at b;exact f.slot i u b
namespace Gp
def Y4 (L0 : Array Bool) (m : Nat) : Array Bool:=((List.range L0.size).map fun j=>L0.getD j true || m.testBit j).toArray
def subs : List Nat → List Nat
  | []=>[0]
  | i :: r=>subs r ++ (subs r).map (· ||| 2 ^ i)
def cnt (G : List Nat) (m : Nat) : Nat:=(G.filter fun i=>!m.testBit i).length
def Ir (md : Region.Mode) (ops : Array Oper) (L0 : Array Bool) (G : List Nat) (m : Nat) : Bool:=
  G.all fun i=>!m.testBit i || ((ops[i]?).map (·.after.all fun e=>!Region.binds md e || (Y4 L0 m).getD e.on false)).getD false
def x6l (md : Region.Mode) (ops : Array Oper) (L0 : Array Bool) (G : List Nat) (m i : Nat) : Bool:=
  G.contains i && Ir md ops L0 G (m ||| 2 ^ i) && cnt G m == cnt G (m ||| 2 ^ i) + 1 && (subs G).contains (m ||| 2 ^ i) && (Y4 L0 m).setIfInBounds i true == Y4 L0 (m ||| 2 ^ i)
def y0g (md : Region.Mode) (ops : Array Oper) (L0 L1 : Array Bool) (G : List Nat) (m : Nat) : Bool:=
  !Ir md ops L0 G m || (if cnt G m = 0 then Y4 L0 m == L1 else !(Region.ready md ops (Y4 L0 m)).isEmpty && (Region.ready md ops (Y4 L0 m)).all (x6l md ops L0 G m))
def y6s (md : Region.Mode) (ops : Array Oper) (L0 : Array Bool) (G : List Nat) (i j : Nat) : Bool:=
  (subs G).all fun m=>!Ir md ops L0 G m || !(Region.ready md ops (Y4 L0 m)).contains i || m.testBit j
def G4 (md : Region.Mode) (ops : Array Oper) (L0 L1 : Array Bool) (G : List Nat) : Bool:=(subs G).all (y0g md ops L0 L1 G) && (subs G).contains 0 && Ir md ops L0 G 0 && Y4 L0 0 == L0
section
variable {P : Program} {ops : Array Oper} {Q : Exit → Act → World → Prop} {md : Region.Mode} {S : World → Prop} {G : List Nat} {L0 L1 : Array Bool} {fuel m i j : Nat}
theorem other (h : i ≠ j) : (m ||| 2 ^ i).testBit j = m.testBit j:=by
  rw [Nat.testBit_or,Nat.testBit_two_pow];simp [h]
theorem y8z (h : cnt G m = 0) : ∀ i ∈ G,m.testBit i = true:=fun i a=>by
  unfold cnt at h
  have:=List.eq_nil_of_length_eq_zero h
  rw [List.filter_eq_nil_iff] at this
  have:=this i a
  simpa using this
theorem need (h : y6s md ops L0 G i j = true) (d : m ∈ subs G) (c : Ir md ops L0 G m = true) (hi : i ∈ Region.ready md ops (Y4 L0 m)) : m.testBit j = true:=by
  have a:=List.all_eq_true.1 h m d;rw [c] at a;have b : (Region.ready md ops (Y4 L0 m)).contains i = true:=by simpa using hi
  rw [b] at a
  simpa using a
theorem go (c : (subs G).all (y0g md ops L0 L1 G) = true) (I : Nat → Act → World → Prop)
    (b : ∀ m i a w,m ∈ subs G → Ir md ops L0 G m = true → i ∈ Region.ready md ops (Y4 L0 m) → i ∈ G → I m a w → wpOp P ops Q i (fun a' w'=>S w' ∧ I (m ||| 2 ^ i) a' w') a w)
    (K : ∀ m a w,(∀ i ∈ G,m.testBit i = true) → I m a w → wpAnyH P md ops Q S fuel L1 a w) :
    ∀ n m a w,cnt G m = n → m ∈ subs G → Ir md ops L0 G m = true → I m a w → wpAnyH P md ops Q S (fuel + n) (Y4 L0 m) a w
  | 0,m,a,w,hn,hm,hcl,hI=>by
    have h:=List.all_eq_true.1 c m hm
    unfold y0g at h
    rw [hcl,if_pos hn] at h
    have e : Y4 L0 m = L1:=by simpa using h
    rw [e]
    exact K m a w (y8z hn) hI
  | n + 1,m,a,w,hn,hm,hcl,hI=>by
    have h:=List.all_eq_true.1 c m hm
    unfold y0g at h
    rw [hcl,if_neg (by omega)] at h
    simp only [Bool.not_true,Bool.false_or,Bool.and_eq_true,Bool.not_eq_true',List.isEmpty_eq_false_iff] at h
    refine wpAnyH_all rfl h.1 fun i g=>?_
    have d:=List.all_eq_true.1 h.2 i g
    unfold x6l at d
    simp only [Bool.and_eq_true,beq_iff_eq] at d
    obtain ⟨⟨⟨⟨k,l⟩,q⟩,o⟩,p⟩:=d
    refine wpOp_mono (fun a' w' f=>⟨f.1,?_⟩) (b m i a w hm hcl g (by simpa using k) hI)
    rw [p]
    exact go c I b K n (m ||| 2 ^ i) a' w' (by omega) (by simpa using o) l f.2
theorem enter {b : Nat} {a : Act} {w : World} (I : Nat → Act → World → Prop) (d : G4 md ops L0 L1 G = true) (o : b = fuel + cnt G 0) (f : I 0 a w)
    (c : ∀ m i a w,m ∈ subs G → Ir md ops L0 G m = true → i ∈ Region.ready md ops (Y4 L0 m) → i ∈ G → I m a w → wpOp P ops Q i (fun a' w'=>S w' ∧ I (m ||| 2 ^ i) a' w') a w)
    (K : ∀ m a w,(∀ i ∈ G,m.testBit i = true) → I m a w → wpAnyH P md ops Q S fuel L1 a w) : wpAnyH P md ops Q S b L0 a w:=by
  unfold G4 at d;simp only [Bool.and_eq_true,beq_iff_eq] at d;obtain ⟨⟨⟨g,k⟩,l⟩,n⟩:=d;have h:=go (Q:=Q) (S:=S) (fuel:=fuel) g I c K (cnt G 0) 0 a w rfl (by simpa using k) l f;rw [n] at h;rw [o];exact h
end
end Gp
end Go.Hub
namespace Go.Proofs.YtkdeedhjkjffpaaGreat
open Go.RowKit Go.Hub Go.Lib
def PhiV (u v : Value) (W : World) : Prop:=v = u
def PhiF (w : World) (e size n : Nat) (xs : List Value) (v : Value) (W : World) : Prop:=∃ A c,v = .slice A n c ∧ Fresh w W e size A n c xs
theorem PhiV.kept {u v : Value} {W a : World} (h : PhiV u v W) (b : Kept [] W a) : PhiV u v a:=h
theorem PhiF.kept {w : World} {e size n : Nat} {xs : List Value} {v : Value} {W a : World} (h : PhiF w e size n xs v W) (f : Kept [] W a) : PhiF w e size n xs v a:=by
  obtain ⟨A,c,b,d⟩:=h;exact ⟨A,c,b,d.k0 f⟩
theorem Ai {x : Nat} {W a w : World} {t e size n c : Nat} {A : Option Addr} {xs : List Value} {cs : Array Value} (h : Fresh w W e size A n c xs) (g : Kept [x] W a) (b : Blk W x t cs) (i : t ≠ e) : Fresh w a e size A n c xs:=Fresh.kept h g fun d f j=>by
  obtain rfl:=List.mem_singleton.1 j
  exact Bc (Fresh.own h) b i (by simpa using (Ag A n c d).2 f)
structure PkF (w W : World) (p : Pk) (s : Ad) : Prop where
  pay : Fresh w W 5 1 s.pa p.pay.length s.pc (p.pay.map u8)
  wp : Fresh w W 5 1 s.wa p.wp.length s.wc (p.wp.map u8)
  pass : Fresh w W 5 1 s.sa p.pass.length s.sc (p.pass.map u8)
  subs : Fresh w W 79 2 s.ua p.subs.length s.uc (subCells p.subs)
  codes : Fresh w W 3 1 s.ca p.codes.length s.cc (codeCells p.codes)
section
variable {w w0 W W' : World} {p : Pk} {s : Ad} {x t : Nat} {cs : Array Value}
theorem PkF.k1 (h : PkF w W p s) (c : Kept [x] W W') (b : Blk W x t cs) (a : t ∉ [5,79,3]) : PkF w W' p s:=by
  simp only [List.mem_cons,List.not_mem_nil,not_or,or_false] at a;exact ⟨Ai h.pay c b a.1,Ai h.wp c b a.1,Ai h.pass c b a.1,Ai h.subs c b a.2.1,Ai h.codes c b a.2.2⟩
theorem PkF.lw (h : PkF w W p s) (a : w0.heap.size ≤ w.heap.size) : PkF w0 W p s:=⟨h.pay.lw a,h.wp.lw a,h.pass.lw a,h.subs.lw a,h.codes.lw a⟩
end
theorem P0 (p : Pk) (s : Ad) (w : World) (IP : p.In w s) (hL : p.Len) : Calls Tryz.prog 19 #[.agg (p.cells s)] w (fun e w'=>Kept [] w w' ∧ ∃ t,e = .returned (.agg (p.cells t)) ∧ PkF w w' p t):=by
 have i : Kept [] w w:=Kept.refl [] w;obtain ⟨l1,l2,l3,l4,l5,l6,l7,l8,l9,cm⟩:=hL;refine Bw Tryz.func19 Tryz.ntmps19 fun _ f=>?_;refine C.sk fun _ k=>?_;refine L.box f Aa (by decide) rfl rfl fun _ w1 g0 N f=>?_;obtain ⟨b,d,bk,c3,c6⟩:=N.al;have c1:=i.lo bk;replace i:=i.z d;clear N d;refine L.alloc f Aa (by decide) (z:=(.agg #[(.int .i64 0),(.bool false),(.bool false),(.int .i64 0),(.int .i64 0),(.string ⟨#[]⟩),(.slice none 0 0),(.int .i64 0),(.string ⟨#[]⟩),(.bool false),(.int .i64 0),(.bool false),(.string ⟨#[]⟩),(.slice none 0 0),(.int .i64 0),(.bool false),(.bool false),(.bool false),(.string ⟨#[]⟩),(.slice none 0 0),(.bool false),(.int .i64 0),(.slice none 0 0),(.slice none 0 0)])) (fun _=>by kernel_rfl) rfl fun _ w2 g1 N f=>?_;obtain ⟨c,d,bl,c4,c7⟩:=N.al;have c2:=i.lo bl;have bm : g0 ≠ g1:=by have:=b.lt; omega
 replace i:=i.z d;replace b:=b.z d;clear N d;refine wn k ?_;refine wp_seq_k fun _ k=>?_;replace b : Blk w2 g0 39 #[.int .i64 p.kind,.bool p.dup,.bool p.retain,.int .i64 p.qos,.int .i64 p.id,.string p.topic,.slice s.pa p.pay.length s.pc,.int .i64 p.level,.string p.client,.bool p.clean,.int .i64 p.keep,.bool p.hasWill,.string p.wt,.slice s.wa p.wp.length s.wc,.int .i64 p.wq,.bool p.wr,.bool p.hasUser,.bool p.hasPass,.string p.user,.slice s.sa p.pass.length s.sc,.bool p.present,.int .i64 p.code,.slice s.ua p.subs.length s.uc,.slice s.ca p.codes.length s.cc]:=b;have ae:=dk w2 1;refine R.bT (S:=fun _=>True) (by kernel_rfl) (by kernel_rfl) trivial fun ht=>?_;obtain ⟨w3,ax⟩ : ∃ W,W = w2.drewN 1:=⟨_,rfl⟩;rw [← ax] at ae ⊢;clear ax;have c9:=ae.size;replace i:=i.z ae;replace b:=b.z ae;replace c:=c.z ae;clear ae;refine rs [0,3,6,7] f fun _ f=>?_
 refine Gp.enter (G:=[1,2,4,5,8,9,10]) (L0:=#[true,false,false,true,false,false,true,true,false,false,false,false,false,false,false,false,false]) (L1:=(tf 17 [11,12,13,14,15,16])) (fuel:=6) (fun mS a W=>∃ v4 v5 v7 v8 af ag ah : Value,Fr 26 a [(1,.pointer (some ⟨g0,0,none⟩)),(2,.pointer (some ⟨g1,0,none⟩)),(3,.pointer (some ⟨g0,0 + 6,none⟩)),(6,.pointer (some ⟨g0,0 + 19,none⟩)),(9,.pointer (some ⟨g0,0 + 12,none⟩)),(10,.pointer (some ⟨g0,0 + 12 + 1,none⟩)),(4,v4),(5,v5),(7,v7),(8,v8),(11,af),(12,ag),(13,ah)] ∧ (Kept [] w W) ∧ (Blk W g0 39 #[.int .i64 p.kind,.bool p.dup,.bool p.retain,.int .i64 p.qos,.int .i64 p.id,.string p.topic,.slice s.pa p.pay.length s.pc,.int .i64 p.level,.string p.client,.bool p.clean,.int .i64 p.keep,.bool p.hasWill,.string p.wt,.slice s.wa p.wp.length s.wc,.int .i64 p.wq,.bool p.wr,.bool p.hasUser,.bool p.hasPass,.string p.user,.slice s.sa p.pass.length s.sc,.bool p.present,.int .i64 p.code,.slice s.ua p.subs.length s.uc,.slice s.ca p.codes.length s.cc]) ∧ (Blk W g1 39 Dg) ∧ (mS.testBit 1 = true → PhiV (.slice s.pa p.pay.length s.pc) v4 W) ∧ (mS.testBit 2 = true → PhiF w 5 1 p.pay.length (p.pay.map u8) v5 W) ∧ (mS.testBit 4 = true → PhiV (.slice s.sa p.pass.length s.sc) v7 W) ∧ (mS.testBit 5 = true → PhiF w 5 1 p.pass.length (p.pass.map u8) v8 W) ∧ (mS.testBit 8 = true → PhiV (.slice s.wa p.wp.length s.wc) af W) ∧ (mS.testBit 9 = true → PhiF w 5 1 p.wp.length (p.wp.map u8) ag W) ∧ (mS.testBit 10 = true → PhiV (.pointer (some ⟨g0,0 + 6,none⟩)) ah W)) (by kernel_rfl) (by kernel_rfl) ?_ ?_ ?_
 ·obtain ⟨v4,g⟩:=f.any 4 (by decide);obtain ⟨v5,f⟩:=g.any 5 (by decide);obtain ⟨v7,g⟩:=f.any 7 (by decide);obtain ⟨v8,f⟩:=g.any 8 (by decide);obtain ⟨af,g⟩:=f.any 11 (by decide);obtain ⟨ag,f⟩:=g.any 12 (by decide);obtain ⟨ah,g⟩:=f.any 13 (by decide);exact ⟨v4,v5,v7,v8,af,ag,ah,g.sub (sx (sx (sx (sx (sx (sx (sx (sx (sx (sx (sx (sx (sx sn))))))))))))),i,b,c,fun q=>absurd q (by simp),fun q=>absurd q (by simp),fun q=>absurd q (by simp),fun q=>absurd q (by simp),fun q=>absurd q (by simp),fun q=>absurd q (by simp),fun q=>absurd q (by simp)⟩
 ·intro mS i_ _ w4 hm ad hi hG hI;obtain ⟨v4,v5,v7,v8,af,ag,ah,f,i,b,c,v,x,y,P5,P8,P9,n⟩:=hI;simp only [List.mem_cons,List.not_mem_nil,or_false] at hG
  rcases hG with rfl | rfl | rfl | rfl | rfl | rfl | rfl
  ·skip;refine O.val f rfl rfl (by decide) Aa (by exact E.ld f U33 (b)) trivial fun _ g=>?_;exact ⟨_,_,_,_,_,_,_,g.sub (sr rfl (sr rfl (sr rfl (sr rfl (sr rfl (sr rfl (sr rfl (sr rfl (sr rfl (sr rfl (sr rfl (sr rfl (sr rfl sn))))))))))))),i,b,c,fun _=>rfl,fun q=>x (by rwa [Gp.other (by decide)] at q),fun q=>y (by rwa [Gp.other (by decide)] at q),fun q=>P5 (by rwa [Gp.other (by decide)] at q),fun q=>P8 (by rwa [Gp.other (by decide)] at q),fun q=>P9 (by rwa [Gp.other (by decide)] at q),fun q=>n (by rwa [Gp.other (by decide)] at q)⟩
  ·skip;have D1:=v (Gp.need (j:=1) (by kernel_rfl) hm ad hi);obtain rfl:=D1;refine O.call f rfl rfl (by decide) Aa (Dt f Tryz.call53) (Mh p.pay _ _ _ (IP.pay.kept i) (by omega)) ?_;rintro e w5 ⟨d,A5,c5,rfl,l⟩;have a4:=i.size;replace l:=Fresh.lw l a4;refine ⟨_,rfl,trivial,fun _ g=>?_⟩;have aw:=d.size;replace i:=i.z d;replace b:=b.z d;replace c:=c.z d;replace v:=fun q=>(v q).kept d;replace x:=fun q=>(x q).kept d;replace y:=fun q=>(y q).kept d;replace P5:=fun q=>(P5 q).kept d;replace P8:=fun q=>(P8 q).kept d;replace P9:=fun q=>(P9 q).kept d;replace n:=fun q=>(n q).kept d;clear d;exact ⟨_,_,_,_,_,_,_,g.sub (sr rfl (sr rfl (sr rfl (sr rfl (sr rfl (sr rfl (sr rfl (sr rfl (sr rfl (sr rfl (sr rfl (sr rfl (sr rfl sn))))))))))))),i,b,c,fun q=>v (by rwa [Gp.other (by decide)] at q),fun _=>⟨A5,c5,rfl,l⟩,fun q=>y (by rwa [Gp.other (by decide)] at q),fun q=>P5 (by rwa [Gp.other (by decide)] at q),fun q=>P8 (by rwa [Gp.other (by decide)] at q),fun q=>P9 (by rwa [Gp.other (by decide)] at q),fun q=>n (by rwa [Gp.other (by decide)] at q)⟩
  ·skip;refine O.val f rfl rfl (by decide) Aa (by exact E.ld f U33 (b)) trivial fun _ g=>?_;exact ⟨_,_,_,_,_,_,_,g.sub (sr rfl (sr rfl (sr rfl (sr rfl (sr rfl (sr rfl (sr rfl (sr rfl (sr rfl (sr rfl (sr rfl (sr rfl (sr rfl sn))))))))))))),i,b,c,fun q=>v (by rwa [Gp.other (by decide)] at q),fun q=>x (by rwa [Gp.other (by decide)] at q),fun _=>rfl,fun q=>P5 (by rwa [Gp.other (by decide)] at q),fun q=>P8 (by rwa [Gp.other (by decide)] at q),fun q=>P9 (by rwa [Gp.other (by decide)] at q),fun q=>n (by rwa [Gp.other (by decide)] at q)⟩
  ·skip;have D4:=y (Gp.need (j:=4) (by kernel_rfl) hm ad hi);obtain rfl:=D4;refine O.call f rfl rfl (by decide) Aa (Dt f Tryz.call53) (Mh p.pass _ _ _ (IP.pass.kept i) (by omega)) ?_;rintro e w5 ⟨d,A8,c8,rfl,m⟩;have a4:=i.size;replace m:=Fresh.lw m a4;refine ⟨_,rfl,trivial,fun _ g=>?_⟩;have aw:=d.size;replace i:=i.z d;replace b:=b.z d;replace c:=c.z d;replace v:=fun q=>(v q).kept d;replace x:=fun q=>(x q).kept d;replace y:=fun q=>(y q).kept d;replace P5:=fun q=>(P5 q).kept d;replace P8:=fun q=>(P8 q).kept d;replace P9:=fun q=>(P9 q).kept d;replace n:=fun q=>(n q).kept d;clear d;exact ⟨_,_,_,_,_,_,_,g.sub (sr rfl (sr rfl (sr rfl (sr rfl (sr rfl (sr rfl (sr rfl (sr rfl (sr rfl (sr rfl (sr rfl (sr rfl (sr rfl sn))))))))))))),i,b,c,fun q=>v (by rwa [Gp.other (by decide)] at q),fun q=>x (by rwa [Gp.other (by decide)] at q),fun q=>y (by rwa [Gp.other (by decide)] at q),fun _=>⟨A8,c8,rfl,m⟩,fun q=>P8 (by rwa [Gp.other (by decide)] at q),fun q=>P9 (by rwa [Gp.other (by decide)] at q),fun q=>n (by rwa [Gp.other (by decide)] at q)⟩
  ·skip;refine O.val f rfl rfl (by decide) Aa (by exact E.ld f U33 (b)) trivial fun _ g=>?_;exact ⟨_,_,_,_,_,_,_,g.sub (sr rfl (sr rfl (sr rfl (sr rfl (sr rfl (sr rfl (sr rfl (sr rfl (sr rfl (sr rfl (sr rfl (sr rfl (sr rfl sn))))))))))))),i,b,c,fun q=>v (by rwa [Gp.other (by decide)] at q),fun q=>x (by rwa [Gp.other (by decide)] at q),fun q=>y (by rwa [Gp.other (by decide)] at q),fun q=>P5 (by rwa [Gp.other (by decide)] at q),fun _=>rfl,fun q=>P9 (by rwa [Gp.other (by decide)] at q),fun q=>n (by rwa [Gp.other (by decide)] at q)⟩
  ·skip;have D8:=P8 (Gp.need (j:=8) (by kernel_rfl) hm ad hi);obtain rfl:=D8;refine O.call f rfl rfl (by decide) Aa (Dt f Tryz.call53) (Mh p.wp _ _ _ (IP.wp.kept i) (by omega)) ?_;rintro e w5 ⟨d,aq,au,rfl,h⟩;have a4:=i.size;replace h:=Fresh.lw h a4;refine ⟨_,rfl,trivial,fun _ g=>?_⟩;have aw:=d.size;replace i:=i.z d;replace b:=b.z d;replace c:=c.z d;replace v:=fun q=>(v q).kept d;replace x:=fun q=>(x q).kept d;replace y:=fun q=>(y q).kept d;replace P5:=fun q=>(P5 q).kept d;replace P8:=fun q=>(P8 q).kept d;replace P9:=fun q=>(P9 q).kept d;replace n:=fun q=>(n q).kept d;clear d;exact ⟨_,_,_,_,_,_,_,g.sub (sr rfl (sr rfl (sr rfl (sr rfl (sr rfl (sr rfl (sr rfl (sr rfl (sr rfl (sr rfl (sr rfl (sr rfl (sr rfl sn))))))))))))),i,b,c,fun q=>v (by rwa [Gp.other (by decide)] at q),fun q=>x (by rwa [Gp.other (by decide)] at q),fun q=>y (by rwa [Gp.other (by decide)] at q),fun q=>P5 (by rwa [Gp.other (by decide)] at q),fun q=>P8 (by rwa [Gp.other (by decide)] at q),fun _=>⟨aq,au,rfl,h⟩,fun q=>n (by rwa [Gp.other (by decide)] at q)⟩
  skip;refine O.val f rfl rfl (by decide) Aa (E.fa 6 f U39 rfl Z3) trivial fun _ f=>?_;exact ⟨_,_,_,_,_,_,_,f.sub (sr rfl (sr rfl (sr rfl (sr rfl (sr rfl (sr rfl (sr rfl (sr rfl (sr rfl (sr rfl (sr rfl (sr rfl (sr rfl sn))))))))))))),i,b,c,fun q=>v (by rwa [Gp.other (by decide)] at q),fun q=>x (by rwa [Gp.other (by decide)] at q),fun q=>y (by rwa [Gp.other (by decide)] at q),fun q=>P5 (by rwa [Gp.other (by decide)] at q),fun q=>P8 (by rwa [Gp.other (by decide)] at q),fun q=>P9 (by rwa [Gp.other (by decide)] at q),fun _=>rfl⟩
 intro mS _ w4 hm hI;obtain ⟨v4,v5,v7,v8,af,ag,ah,f,i,b,c,v,x,y,P5,P8,P9,n⟩:=hI;have D2:=x (hm 2 (by decide));obtain ⟨A5,c5,rfl,l⟩:=D2;have D5:=P5 (hm 5 (by decide));obtain ⟨A8,c8,rfl,m⟩:=D5;have D9:=P9 (hm 9 (by decide));obtain ⟨aq,au,rfl,h⟩:=D9;have bp:=n (hm 10 (by decide));obtain rfl:=bp;clear v x y P5 P8 P9 n;refine R.on 11 ?_;refine OT.store f rfl Aa Z3 rfl rfl rfl b (by (simp [Value.cells]; done)) fun _ w5 f bt a9=>?_;have aw:=a9.size;replace i:=i.trans a9 (B6 (by omega));replace c:=c.kn a9;replace l:=Ai l a9 b (by decide);replace m:=Ai m a9 b (by decide);replace h:=Ai h a9 b (by decide);replace b:=bt;simp only [Value.cells,z1,z2,z3,Nat.reduceAdd,Nat.zero_add] at b;clear a9;refine rs [12] f fun _ f=>?_;refine R.on 13 ?_;refine OT.store f rfl Aa Z3 rfl rfl rfl b (by (simp [Value.cells]; done)) fun _ w6 f bu aa=>?_;have cb:=aa.size;replace i:=i.trans aa (B6 (by omega));replace c:=c.kn aa;replace l:=Ai l aa b (by decide);replace m:=Ai m aa b (by decide);replace h:=Ai h aa b (by decide);replace b:=bu;simp only [Value.cells,z1,z2,z3,Nat.reduceAdd,Nat.zero_add] at b;clear aa;refine rs [14,15] f fun _ f=>?_;refine R.on 16 ?_;refine OT.store f rfl Aa Z3 rfl rfl rfl b (by (simp [Value.cells]; done)) fun _ w7 f bv ab=>?_
 have cd:=ab.size;replace i:=i.trans ab (B6 (by omega));replace c:=c.kn ab;replace l:=Ai l ab b (by decide);replace m:=Ai m ab b (by decide);replace h:=Ai h ab b (by decide);replace b:=bv;simp only [Value.cells,z1,z2,z3,Nat.reduceAdd,Nat.zero_add] at b;clear ab;refine R.dn k ?_;refine wp_seq_k fun _ k=>?_;have a3:=dk w7 1;refine R.bT (S:=fun _=>True) (by kernel_rfl) (by kernel_rfl) trivial fun ht=>?_;obtain ⟨w8,ay⟩ : ∃ W,W = w7.drewN 1:=⟨_,rfl⟩;rw [← ay] at a3 ⊢;clear ay;have ce:=a3.size;replace i:=i.z a3;replace c:=c.z a3;replace l:=Fresh.k0 l a3;replace m:=Fresh.k0 m a3;replace h:=Fresh.k0 h a3;replace b:=b.z a3;clear a3;refine rs [0,3] f fun _ f=>?_
 refine Gp.enter (G:=[1,2,4,5,6]) (L0:=#[true,false,false,true,false,false,false,false,false,false]) (L1:=#[true,true,true,true,true,true,true,false,false,false]) (fuel:=3) (fun mS a W=>∃ ai aj ak ao ap : Value,Fr 26 a [(1,.pointer (some ⟨g0,0,none⟩)),(2,.pointer (some ⟨g1,0,none⟩)),(17,.pointer (some ⟨g0,0 + 22,none⟩)),(20,.pointer (some ⟨g0,0 + 23,none⟩)),(18,ai),(19,aj),(21,ak),(22,ao),(23,ap)] ∧ (Kept [] w W) ∧ (Blk W g1 39 Dg) ∧ (Fresh w W 5 1 A5 p.pay.length c5 (p.pay.map u8)) ∧ (Fresh w W 5 1 A8 p.pass.length c8 (p.pass.map u8)) ∧ (Fresh w W 5 1 aq p.wp.length au (p.wp.map u8)) ∧ (Blk W g0 39 #[.int .i64 p.kind,.bool p.dup,.bool p.retain,.int .i64 p.qos,.int .i64 p.id,.string p.topic,.slice A5 p.pay.length c5,.int .i64 p.level,.string p.client,.bool p.clean,.int .i64 p.keep,.bool p.hasWill,.string p.wt,.slice aq p.wp.length au,.int .i64 p.wq,.bool p.wr,.bool p.hasUser,.bool p.hasPass,.string p.user,.slice A8 p.pass.length c8,.bool p.present,.int .i64 p.code,.slice s.ua p.subs.length s.uc,.slice s.ca p.codes.length s.cc]) ∧ (mS.testBit 1 = true → PhiV (.slice s.ua p.subs.length s.uc) ai W) ∧ (mS.testBit 2 = true → PhiF w 79 2 p.subs.length (subCells p.subs) aj W) ∧ (mS.testBit 4 = true → PhiV (.slice s.ca p.codes.length s.cc) ak W) ∧ (mS.testBit 5 = true → PhiF w 3 1 p.codes.length (codeCells p.codes) ao W) ∧ (mS.testBit 6 = true → PhiV (.pointer (some ⟨g0,0 + 22,none⟩)) ap W)) (by kernel_rfl) (by kernel_rfl) ?_ ?_ ?_
 ·obtain ⟨ai,g⟩:=f.any 18 (by decide);obtain ⟨aj,f⟩:=g.any 19 (by decide);obtain ⟨ak,g⟩:=f.any 21 (by decide);obtain ⟨ao,f⟩:=g.any 22 (by decide);obtain ⟨ap,g⟩:=f.any 23 (by decide);exact ⟨ai,aj,ak,ao,ap,g.sub (sx (sx (sx (sx (sx (sx (sx (sx (sx sn))))))))),i,c,l,m,h,b,fun q=>absurd q (by simp),fun q=>absurd q (by simp),fun q=>absurd q (by simp),fun q=>absurd q (by simp),fun q=>absurd q (by simp)⟩
 ·intro mS i_ _ w9 hm ad hi hG hI;obtain ⟨ai,aj,ak,ao,ap,f,i,c,l,m,h,b,v,x,y,P5,P6⟩:=hI;simp only [List.mem_cons,List.not_mem_nil,or_false] at hG
  rcases hG with rfl | rfl | rfl | rfl | rfl
  ·skip;refine O.val f rfl rfl (by decide) Aa (by exact E.ld f U36 (b)) trivial fun _ g=>?_;exact ⟨_,_,_,_,_,g.sub (sr rfl (sr rfl (sr rfl (sr rfl (sr rfl (sr rfl (sr rfl (sr rfl (sr rfl sn))))))))),i,c,l,m,h,b,fun _=>rfl,fun q=>x (by rwa [Gp.other (by decide)] at q),fun q=>y (by rwa [Gp.other (by decide)] at q),fun q=>P5 (by rwa [Gp.other (by decide)] at q),fun q=>P6 (by rwa [Gp.other (by decide)] at q)⟩
  ·skip;have D1:=v (Gp.need (j:=1) (by kernel_rfl) hm ad hi);obtain rfl:=D1;refine O.call f rfl rfl (by decide) Aa (Dt f Tryz.call54) (Wy p.subs _ _ _ (IP.subs.kept i) (by omega)) ?_;rintro e bn ⟨d,az,b1,rfl,a1⟩;have a4:=i.size;replace a1:=Fresh.lw a1 a4;refine ⟨_,rfl,trivial,fun _ g=>?_⟩;have av:=d.size;replace i:=i.z d;replace c:=c.z d;replace l:=Fresh.k0 l d;replace m:=Fresh.k0 m d;replace h:=Fresh.k0 h d;replace b:=b.z d;replace v:=fun q=>(v q).kept d;replace x:=fun q=>(x q).kept d;replace y:=fun q=>(y q).kept d;replace P5:=fun q=>(P5 q).kept d;replace P6:=fun q=>(P6 q).kept d;clear d;exact ⟨_,_,_,_,_,g.sub (sr rfl (sr rfl (sr rfl (sr rfl (sr rfl (sr rfl (sr rfl (sr rfl (sr rfl sn))))))))),i,c,l,m,h,b,fun q=>v (by rwa [Gp.other (by decide)] at q),fun _=>⟨az,b1,rfl,a1⟩,fun q=>y (by rwa [Gp.other (by decide)] at q),fun q=>P5 (by rwa [Gp.other (by decide)] at q),fun q=>P6 (by rwa [Gp.other (by decide)] at q)⟩
  ·skip;refine O.val f rfl rfl (by decide) Aa (by exact E.ld f U37 (b)) trivial fun _ g=>?_;exact ⟨_,_,_,_,_,g.sub (sr rfl (sr rfl (sr rfl (sr rfl (sr rfl (sr rfl (sr rfl (sr rfl (sr rfl sn))))))))),i,c,l,m,h,b,fun q=>v (by rwa [Gp.other (by decide)] at q),fun q=>x (by rwa [Gp.other (by decide)] at q),fun _=>rfl,fun q=>P5 (by rwa [Gp.other (by decide)] at q),fun q=>P6 (by rwa [Gp.other (by decide)] at q)⟩
  ·skip;have D4:=y (Gp.need (j:=4) (by kernel_rfl) hm ad hi);obtain rfl:=D4;refine O.call f rfl rfl (by decide) Aa (Dt f Tryz.call55) (Wz p.codes _ _ _ (IP.codes.kept i) (by omega)) ?_;rintro e bn ⟨d,b0,b2,rfl,a2⟩;have a4:=i.size;replace a2:=Fresh.lw a2 a4;refine ⟨_,rfl,trivial,fun _ g=>?_⟩;have av:=d.size;replace i:=i.z d;replace c:=c.z d;replace l:=Fresh.k0 l d;replace m:=Fresh.k0 m d;replace h:=Fresh.k0 h d;replace b:=b.z d;replace v:=fun q=>(v q).kept d;replace x:=fun q=>(x q).kept d;replace y:=fun q=>(y q).kept d;replace P5:=fun q=>(P5 q).kept d;replace P6:=fun q=>(P6 q).kept d;clear d;exact ⟨_,_,_,_,_,g.sub (sr rfl (sr rfl (sr rfl (sr rfl (sr rfl (sr rfl (sr rfl (sr rfl (sr rfl sn))))))))),i,c,l,m,h,b,fun q=>v (by rwa [Gp.other (by decide)] at q),fun q=>x (by rwa [Gp.other (by decide)] at q),fun q=>y (by rwa [Gp.other (by decide)] at q),fun _=>⟨b0,b2,rfl,a2⟩,fun q=>P6 (by rwa [Gp.other (by decide)] at q)⟩
  skip;refine O.val f rfl rfl (by decide) Aa (E.fa 22 f U39 rfl Z6) trivial fun _ f=>?_;exact ⟨_,_,_,_,_,f.sub (sr rfl (sr rfl (sr rfl (sr rfl (sr rfl (sr rfl (sr rfl (sr rfl (sr rfl sn))))))))),i,c,l,m,h,b,fun q=>v (by rwa [Gp.other (by decide)] at q),fun q=>x (by rwa [Gp.other (by decide)] at q),fun q=>y (by rwa [Gp.other (by decide)] at q),fun q=>P5 (by rwa [Gp.other (by decide)] at q),fun _=>rfl⟩
 intro mS _ w9 hm hI;obtain ⟨ai,aj,ak,ao,ap,f,i,c,l,m,h,b,v,x,y,P5,P6⟩:=hI;have D2:=x (hm 2 (by decide));obtain ⟨az,b1,rfl,a1⟩:=D2;have D5:=P5 (hm 5 (by decide));obtain ⟨b0,b2,rfl,a2⟩:=D5;have D6:=P6 (hm 6 (by decide));obtain rfl:=D6;clear v x y P5 P6;refine R.on 7 ?_;refine OT.store f rfl Aa Z6 rfl rfl rfl b (by (simp [Value.cells]; done)) fun _ bn f bc o=>?_;have av:=o.size;replace i:=i.trans o (B6 (by omega));replace c:=c.kn o;replace l:=Ai l o b (by decide);replace m:=Ai m o b (by decide);replace h:=Ai h o b (by decide);replace a1:=Ai a1 o b (by decide);replace a2:=Ai a2 o b (by decide);replace b:=bc;simp only [Value.cells,z1,z2,z3,Nat.reduceAdd,Nat.zero_add] at b;clear o;refine rs [8] f fun _ f=>?_;refine R.on 9 ?_;refine OT.store f rfl Aa Z7 rfl rfl rfl b (by (simp [Value.cells]; done)) fun _ cn f bd r=>?_;have bw:=r.size;replace i:=i.trans r (B6 (by omega));replace c:=c.kn r;replace l:=Ai l r b (by decide);replace m:=Ai m r b (by decide);replace h:=Ai h r b (by decide);replace a1:=Ai a1 r b (by decide);replace a2:=Ai a2 r b (by decide);replace b:=bd;simp only [Value.cells,z1,z2,z3,Nat.reduceAdd,Nat.zero_add] at b;clear r
 refine R.dn k ?_;refine C.sk fun _ k=>?_;refine L.s f fun _ f=>?_;refine L.storeR f Aa Z8 rfl rfl rfl c rfl rfl fun _ co f bf u=>?_;have bx:=u.size;replace i:=i.trans u (B6 (by omega));replace l:=Ai l u c (by decide);replace m:=Ai m u c (by decide);replace h:=Ai h u c (by decide);replace a1:=Ai a1 u c (by decide);replace a2:=Ai a2 u c (by decide);replace b:=b.kn u;replace c:=bf;clear u;refine wn k (wp_ret ?_); (try simp only [xt,xb]); refine C.retC f rfl rfl c U39 rfl Z8 ?_;exact ⟨i,⟨A5,c5,aq,au,A8,c8,az,b1,b0,b2⟩,rfl,⟨l,h,m,a1,a2⟩⟩
end Go.Proofs.YtkdeedhjkjffpaaGreat
namespace Go.Hub
open Go.RowKit
section
variable {P : Program} {a : TypeId} {z : Value}
theorem y3y {c : Array Field} (d : P.underlying a = some (.struct c)) (x : TypeId) (v : Value) (b : Bool) (w : World) : (Instr.typeAssert (.iface a v) x a b).run P w = .ok (if b = true then .tuple #[v,.bool true] else v) w:=by
  cases b <;> simp [Instr.typeAssert,run_underlying d]
theorem y6t {b : Array Field} (c : P.underlying a = some (.struct b)) (d : ∀ w,(zeroValue a).run P w = .ok z w) (x t : TypeId) (v : Value) (w : World) (h : t ≠ a) : (Instr.typeAssert (.iface t v) x a true).run P w = .ok (.tuple #[z,.bool false]) w:=by
  simp [Instr.typeAssert,run_underlying c,h,d]
theorem y3z {b : Array Field} (c : P.underlying a = some (.struct b)) (d : ∀ w,(zeroValue a).run P w = .ok z w) (x : TypeId) (w : World) : (Instr.typeAssert .nilIface x a true).run P w = .ok (.tuple #[z,.bool false]) w:=by
  simp [Instr.typeAssert,run_underlying c,d]
end
end Go.Hub
namespace Go.Proofs.YtkdeedhjkjffpaaGreat
open Go.RowKit Go.Hub Go.Lib
theorem Zd1 (p q r s t u v w x y a b c d f g h i j k l m n o : Value) : Tryz.prog.built 84 [(0,.agg #[p,q,r,s,t,u,v,w,x,y,a,b,c,d,f,g,h,i,j,k,l,m,n,o])] = some #[p,q,r,s,t,u,v,w,x,y,a,b,c,d,f,g,h,i,j,k,l,m,n,o]:=by kernel_rfl
theorem Ze1 (p q r s t u v w x y a b c d f g h i j k l m n o : Value) : Tryz.prog.built 85 [(0,.agg #[p,q,r,s,t,u,v,w,x,y,a,b,c,d,f,g,h,i,j,k,l,m,n,o])] = some #[p,q,r,s,t,u,v,w,x,y,a,b,c,d,f,g,h,i,j,k,l,m,n,o]:=by kernel_rfl
theorem Zf1 (p q r s t u v w x y a b c d f g h i j k l m n o : Value) : Tryz.prog.built 86 [(0,.agg #[p,q,r,s,t,u,v,w,x,y,a,b,c,d,f,g,h,i,j,k,l,m,n,o])] = some #[p,q,r,s,t,u,v,w,x,y,a,b,c,d,f,g,h,i,j,k,l,m,n,o]:=by kernel_rfl
theorem Zg1 (p q r s t u v w x y a b c d f g h i j k l m n o : Value) : Tryz.prog.built 87 [(0,.agg #[p,q,r,s,t,u,v,w,x,y,a,b,c,d,f,g,h,i,j,k,l,m,n,o])] = some #[p,q,r,s,t,u,v,w,x,y,a,b,c,d,f,g,h,i,j,k,l,m,n,o]:=by kernel_rfl
theorem Zh1 (p q r s t u v w x y a b c d f g h i j k l m n o : Value) : Tryz.prog.built 88 [(0,.agg #[p,q,r,s,t,u,v,w,x,y,a,b,c,d,f,g,h,i,j,k,l,m,n,o])] = some #[p,q,r,s,t,u,v,w,x,y,a,b,c,d,f,g,h,i,j,k,l,m,n,o]:=by kernel_rfl
def Fb (k : Int) : Option TypeId:=if k = 1 ∨ k = 2 then some 84 else if k = 3 then some 85 else if (4 ≤ k ∧ k ≤ 7) ∨ k = 9 ∨ k = 11 then some 86 else if k = 8 ∨ k = 10 then some 87 else if 12 ≤ k ∧ k ≤ 14 then some 88 else none
def Jg (k : Int) (cs : Array Value) : Value:=match Fb k with | some t=>.iface t (.agg cs) | none=>.nilIface
section
variable {k : Int} {cs : Array Value}
theorem y4a (h : k = 1 ∨ k = 2) : Fb k = some 84:=by unfold Fb; rw [if_pos h]
theorem y4b (h : k = 3) : Fb k = some 85:=by unfold Fb; rw [if_neg (by omega),if_pos h]
theorem y4c (h : (4 ≤ k ∧ k ≤ 7) ∨ k = 9 ∨ k = 11) : Fb k = some 86:=by unfold Fb; rw [if_neg (by omega),if_neg (by omega),if_pos h]
theorem y4d (h : k = 8 ∨ k = 10) : Fb k = some 87:=by unfold Fb; rw [if_neg (by omega),if_neg (by omega),if_neg (by omega),if_pos h]
theorem y4e (h : 12 ≤ k ∧ k ≤ 14) : Fb k = some 88:=by unfold Fb; rw [if_neg (by omega),if_neg (by omega),if_neg (by omega),if_neg (by omega),if_pos h]
theorem y4f (h : k < 1 ∨ 14 < k) : Fb k = none:=by unfold Fb; rw [if_neg (by omega),if_neg (by omega),if_neg (by omega),if_neg (by omega),if_neg (by omega)]
theorem y2m (h : k = 1 ∨ k = 2) : Jg k cs = .iface 84 (.agg cs):=by unfold Jg; rw [y4a h]
theorem y6u (h : k = 3) : Jg k cs = .iface 85 (.agg cs):=by unfold Jg; rw [y4b h]
theorem S3 (h : (4 ≤ k ∧ k ≤ 7) ∨ k = 9 ∨ k = 11) : Jg k cs = .iface 86 (.agg cs):=by unfold Jg; rw [y4c h]
theorem y2n (h : k = 8 ∨ k = 10) : Jg k cs = .iface 87 (.agg cs):=by unfold Jg; rw [y4d h]
theorem x6m (h : 12 ≤ k ∧ k ≤ 14) : Jg k cs = .iface 88 (.agg cs):=by unfold Jg; rw [y4e h]
theorem y6v (h : k < 1 ∨ 14 < k) : Jg k cs = .nilIface:=by unfold Jg; rw [y4f h]
theorem anyT_is {t : TypeId} (h : Fb k = some t) : (t = 84 ∧ (k = 1 ∨ k = 2)) ∨ (t = 85 ∧ k = 3) ∨ (t = 86 ∧ ((4 ≤ k ∧ k ≤ 7) ∨ k = 9 ∨ k = 11)) ∨ (t = 87 ∧ (k = 8 ∨ k = 10)) ∨ (t = 88 ∧ 12 ≤ k ∧ k ≤ 14):=by
  unfold Fb at h
  repeat' split at h
  all_goals first | (injection h with h; subst h; simp_all) | (cases h)
end
theorem x6n (a : TypeId) (b : a ∈ [84,85,86,87,88]) : (∃ fs,Tryz.prog.underlying a = some (.struct fs)) ∧ ∀ w,(zeroValue a).run Tryz.prog w = .ok (.agg Dg) w:=by
  simp only [List.mem_cons,List.not_mem_nil,or_false] at b
  rcases b with rfl | rfl | rfl | rfl | rfl
  · exact ⟨⟨_,Tryz.underlying84⟩,fun w=>by kernel_rfl⟩
  · exact ⟨⟨_,Tryz.underlying85⟩,fun w=>by kernel_rfl⟩
  · exact ⟨⟨_,Tryz.underlying86⟩,fun w=>by kernel_rfl⟩
  · exact ⟨⟨_,Tryz.underlying87⟩,fun w=>by kernel_rfl⟩
  exact ⟨⟨_,Tryz.underlying88⟩,fun w=>by kernel_rfl⟩
theorem y4g (a : TypeId) (d : a ∈ [84,85,86,87,88]) (k : Int) (cs : Array Value) (x : TypeId) (w : World) : (Instr.typeAssert (Jg k cs) x a true).run Tryz.prog w = .ok (.tuple #[if Fb k = some a then .agg cs else .agg Dg,.bool (decide (Fb k = some a))]) w:=by
  obtain ⟨⟨f,b⟩,c⟩:=x6n a d;unfold Jg
  cases ht : Fb k with
  | none=>
    rw [if_neg (by simp),decide_eq_false (by simp)];exact y3z b c x w
  | some t=>
    by_cases e : t = a
    · subst e
      rw [if_pos rfl,decide_eq_true rfl];exact y3y b x (.agg cs) true w
    rw [if_neg (fun h=>e (Option.some.inj h)),decide_eq_false (fun h=>e (Option.some.inj h))];exact y6t b c x t (.agg cs) w e
theorem _root_.Go.Hub.E.taA {n : Nat} {a : Act} {w : World} {l : FL} {dst : Option Nat} {ty : TypeId} {ps : String} {af : Array Edge} {gd : Option (Nat × Bool)} {x : Operand} {d : TypeId} (f : Fr n a l) (t : TypeId) (b : t ∈ [84, 85, 86, 87, 88]) {k : Int} {cs : Array Value} (c : Ae l x = some (Jg k cs)) :
    (execOp a.eval ⟨dst,.typeAssert x d t true,ty,ps,af,gd⟩).run Tryz.prog w = .ok (.value (.tuple #[if Fb k = some t then .agg cs else .agg Dg,.bool (decide (Fb k = some t))])) w:=by
  simp only [execOp,f.ev c,Sem.run_bind,y4g t b,Result.andThen,Sem.run_pure]
theorem y0h (p : Pk) (s : Ad) (w : World) (IP : p.In w s) (hL : p.Len) : Calls Tryz.prog 20 #[.agg (p.cells s)] w (fun e w'=>Kept [] w w' ∧ ∃ t,e = .returned (Jg p.kind (p.cells t)) ∧ PkF w w' p t):=by
 have d : Kept [] w w:=Kept.refl [] w;refine Bw Tryz.func20 Tryz.ntmps20 fun _ f=>?_;refine C.sk fun _ k=>?_;refine L.box f Aa (by decide) rfl rfl fun _ w1 g0 N f=>?_;obtain ⟨i,q,l,y,a0⟩:=N.al;have x:=d.lo l;replace d:=d.z q;clear N q;refine pe f k fun _ f=>?_;refine C.sk fun _ k=>?_;refine L.s f fun _ f=>?_;refine L.cl f (Dt f Tryz.call19) (P0 p s _ (IP.kept d) hL) ?_;rintro e w2 ⟨q,c,rfl,g⟩;have v:=d.size;replace g:=PkF.lw g v;refine ⟨_,rfl,fun _ f=>?_⟩;have a1:=q.size;replace d:=d.z q;replace i:=i.z q;clear q;refine L.storeR f Aa Z8 rfl rfl rfl i rfl rfl fun _ w3 f m j=>?_;have a2:=j.size;replace d:=d.trans j (B6 (by omega));replace g:=g.k1 j i (by decide);replace i:=m;clear j;refine wn k ?_;refine wp_seq_k fun _ k=>?_;refine wp_seq_k fun _ b=>?_;replace i : Blk w3 g0 39 #[.int .i64 p.kind,.bool p.dup,.bool p.retain,.int .i64 p.qos,.int .i64 p.id,.string p.topic,.slice c.pa p.pay.length c.pc,.int .i64 p.level,.string p.client,.bool p.clean,.int .i64 p.keep,.bool p.hasWill,.string p.wt,.slice c.wa p.wp.length c.wc,.int .i64 p.wq,.bool p.wr,.bool p.hasUser,.bool p.hasPass,.string p.user,.slice c.sa p.pass.length c.sc,.bool p.present,.int .i64 p.code,.slice c.ua p.subs.length c.uc,.slice c.ca p.codes.length c.cc]:=i;refine Ib f b fun _ f=>?_;refine wp_block ?_;refine wp_seq_k fun _ b=>?_
 refine pr f fun _ f=>?_;refine C.sp f (fun h0 f=>?_) (fun h0 f=>?_)
 ·refine wp_skip (b _ _ ?_);have a:=f.pk [1,6,7];refine C.cT a rfl ?_;refine C.sk fun _ h=>?_;refine L.s a fun _ a=>?_;refine L.bd a (Zd1 _ _ _ _ _ _ _ _ _ _ _ _ _ _ _ _ _ _ _ _ _ _ _ _) fun _ a=>?_;refine L.va a (E.makeInterface a (by kernel_rfl) rfl) fun _ a=>?_;refine re a h ?_;exact ⟨d,c,by (rw [y2m (by omega)]; rfl),g⟩
 refine Ib f b fun _ f=>?_;refine C.sp f (fun h1 f=>?_) (fun h1 f=>?_)
 ·refine C.sk fun _ b=>?_;refine L.s f fun _ a=>?_;refine L.bd a (Zd1 _ _ _ _ _ _ _ _ _ _ _ _ _ _ _ _ _ _ _ _ _ _ _ _) fun _ a=>?_;refine L.va a (E.makeInterface a (by kernel_rfl) rfl) fun _ a=>?_;refine re a b ?_;exact ⟨d,c,by (rw [y2m (by omega)]; rfl),g⟩
 refine pr f fun _ f=>?_;refine C.sp f (fun h2 f=>?_) (fun h2 f=>?_)
 ·refine C.sk fun _ b=>?_;refine L.s f fun _ a=>?_;refine L.bd a (Ze1 _ _ _ _ _ _ _ _ _ _ _ _ _ _ _ _ _ _ _ _ _ _ _ _) fun _ a=>?_;refine L.va a (E.makeInterface a (by kernel_rfl) rfl) fun _ a=>?_;refine re a b ?_;exact ⟨d,c,by (rw [y6u (by omega)]; rfl),g⟩
 refine wp_seq_k fun _ b=>?_;refine pr f fun _ f=>?_;refine C.sp f (fun h3 f=>?_) (fun h3 f=>?_)
 ·refine wp_skip (b _ _ ?_);have a:=f.pk [1,6,18];refine C.cT a rfl ?_;refine C.sk fun _ h=>?_;refine L.s a fun _ a=>?_;refine L.bd a (Zf1 _ _ _ _ _ _ _ _ _ _ _ _ _ _ _ _ _ _ _ _ _ _ _ _) fun _ a=>?_;refine L.va a (E.makeInterface a (by kernel_rfl) rfl) fun _ a=>?_;refine re a h ?_;exact ⟨d,c,by (rw [S3 (by omega)]; rfl),g⟩
 refine pr f fun _ f=>?_;refine C.sp f (fun h4 f=>?_) (fun h4 f=>?_)
 ·refine wp_skip (b _ _ ?_);have a:=f.pk [1,6,18];refine C.cT a rfl ?_;refine C.sk fun _ h=>?_;refine L.s a fun _ a=>?_;refine L.bd a (Zf1 _ _ _ _ _ _ _ _ _ _ _ _ _ _ _ _ _ _ _ _ _ _ _ _) fun _ a=>?_;refine L.va a (E.makeInterface a (by kernel_rfl) rfl) fun _ a=>?_;refine re a h ?_;exact ⟨d,c,by (rw [S3 (by omega)]; rfl),g⟩
 refine pr f fun _ f=>?_;refine C.sp f (fun h5 f=>?_) (fun h5 f=>?_)
 ·refine wp_skip (b _ _ ?_);have a:=f.pk [1,6,18];refine C.cT a rfl ?_;refine C.sk fun _ h=>?_;refine L.s a fun _ a=>?_;refine L.bd a (Zf1 _ _ _ _ _ _ _ _ _ _ _ _ _ _ _ _ _ _ _ _ _ _ _ _) fun _ a=>?_;refine L.va a (E.makeInterface a (by kernel_rfl) rfl) fun _ a=>?_;refine re a h ?_;exact ⟨d,c,by (rw [S3 (by omega)]; rfl),g⟩
 refine pr f fun _ f=>?_;refine C.sp f (fun h6 f=>?_) (fun h6 f=>?_)
 ·refine wp_skip (b _ _ ?_);have a:=f.pk [1,6,18];refine C.cT a rfl ?_;refine C.sk fun _ h=>?_;refine L.s a fun _ a=>?_;refine L.bd a (Zf1 _ _ _ _ _ _ _ _ _ _ _ _ _ _ _ _ _ _ _ _ _ _ _ _) fun _ a=>?_;refine L.va a (E.makeInterface a (by kernel_rfl) rfl) fun _ a=>?_;refine re a h ?_;exact ⟨d,c,by (rw [S3 (by omega)]; rfl),g⟩
 refine pr f fun _ f=>?_;refine C.sp f (fun h7 f=>?_) (fun h7 f=>?_)
 ·refine wp_skip (b _ _ ?_);have a:=f.pk [1,6,18];refine C.cT a rfl ?_;refine C.sk fun _ h=>?_;refine L.s a fun _ a=>?_;refine L.bd a (Zf1 _ _ _ _ _ _ _ _ _ _ _ _ _ _ _ _ _ _ _ _ _ _ _ _) fun _ a=>?_;refine L.va a (E.makeInterface a (by kernel_rfl) rfl) fun _ a=>?_;refine re a h ?_;exact ⟨d,c,by (rw [S3 (by omega)]; rfl),g⟩
 refine Ib f b fun _ f=>?_;refine C.sp f (fun h8 f=>?_) (fun h8 f=>?_)
 ·refine C.sk fun _ b=>?_;refine L.s f fun _ a=>?_;refine L.bd a (Zf1 _ _ _ _ _ _ _ _ _ _ _ _ _ _ _ _ _ _ _ _ _ _ _ _) fun _ a=>?_;refine L.va a (E.makeInterface a (by kernel_rfl) rfl) fun _ a=>?_;refine re a b ?_;exact ⟨d,c,by (rw [S3 (by omega)]; rfl),g⟩
 refine wp_seq_k fun _ b=>?_;refine pr f fun _ f=>?_;refine C.sp f (fun h9 f=>?_) (fun h9 f=>?_)
 ·refine wp_skip (b _ _ ?_);have a:=f.pk [1,6,28];refine C.cT a rfl ?_;refine C.sk fun _ h=>?_;refine L.s a fun _ a=>?_;refine L.bd a (Zg1 _ _ _ _ _ _ _ _ _ _ _ _ _ _ _ _ _ _ _ _ _ _ _ _) fun _ a=>?_;refine L.va a (E.makeInterface a (by kernel_rfl) rfl) fun _ a=>?_;refine re a h ?_;exact ⟨d,c,by (rw [y2n (by omega)]; rfl),g⟩
 refine Ib f b fun _ f=>?_;refine C.sp f (fun n f=>?_) (fun n f=>?_)
 ·refine C.sk fun _ b=>?_;refine L.s f fun _ a=>?_;refine L.bd a (Zg1 _ _ _ _ _ _ _ _ _ _ _ _ _ _ _ _ _ _ _ _ _ _ _ _) fun _ a=>?_;refine L.va a (E.makeInterface a (by kernel_rfl) rfl) fun _ a=>?_;refine re a b ?_;exact ⟨d,c,by (rw [y2n (by omega)]; rfl),g⟩
 refine wp_seq_k fun _ b=>?_;refine pr f fun _ f=>?_;refine C.sp f (fun o f=>?_) (fun o f=>?_)
 ·refine wp_skip (b _ _ ?_);have a:=f.pk [1,34];refine C.cT a rfl ?_;refine C.sk fun _ h=>?_;refine L.s a fun _ a=>?_;refine L.bd a (Zh1 _ _ _ _ _ _ _ _ _ _ _ _ _ _ _ _ _ _ _ _ _ _ _ _) fun _ a=>?_;refine L.va a (E.makeInterface a (by kernel_rfl) rfl) fun _ a=>?_;refine re a h ?_;exact ⟨d,c,by (rw [x6m (by omega)]; rfl),g⟩
 refine pr f fun _ f=>?_;refine C.sp f (fun r f=>?_) (fun r f=>?_)
 ·refine wp_skip (b _ _ ?_);have a:=f.pk [1,34];refine C.cT a rfl ?_;refine C.sk fun _ h=>?_;refine L.s a fun _ a=>?_;refine L.bd a (Zh1 _ _ _ _ _ _ _ _ _ _ _ _ _ _ _ _ _ _ _ _ _ _ _ _) fun _ a=>?_;refine L.va a (E.makeInterface a (by kernel_rfl) rfl) fun _ a=>?_;refine re a h ?_;exact ⟨d,c,by (rw [x6m (by omega)]; rfl),g⟩
 refine Ib f b fun _ f=>?_;refine C.sp f (fun u f=>?_) (fun u f=>?_)
 ·refine C.sk fun _ b=>?_;refine L.s f fun _ a=>?_;refine L.bd a (Zh1 _ _ _ _ _ _ _ _ _ _ _ _ _ _ _ _ _ _ _ _ _ _ _ _) fun _ a=>?_;refine L.va a (E.makeInterface a (by kernel_rfl) rfl) fun _ a=>?_;refine re a b ?_;exact ⟨d,c,by (rw [x6m (by omega)]; rfl),g⟩
 refine wp_skip (k _ _ ?_);have f:=f.sub sn;refine rt f ?_;exact ⟨d,c,by (rw [y6v (by omega)]),g⟩
end Go.Proofs.YtkdeedhjkjffpaaGreat
namespace Go.Proofs.YtkdeedhjkjffpaaGreat
open Go.RowKit Go.Hub Go.WideShapes Go.ChangeMaps
open Go.Maps (Keyed)
open Go.WideMaps (KeyLaw)
theorem y6w : Tryz.prog.types.size + 1 = (Tryz.prog.types.size - 1) + 1 + 1:=by kernel_rfl
theorem Vp {d : Nat} {x : Int} (h : (Lit.int .i64 x).wf = true) : Tryz.prog.keyLits (d + 1) 3 [.int .i64 x] = some [.int .i64 x]:=by
  unfold Program.keyLits;rw [U3];simp [h]
theorem Np {a b : Int} (h : (Lit.int .i64 a).wf = true) (i : (Lit.int .i64 b).wf = true) : keyOf Tryz.prog 90 (.agg #[.int .i64 a,.int .i64 b]) = some (.string (keyBytes [.int .i64 a,.int .i64 b])):=by
  unfold keyOf;have f : (Tryz.prog.keyType 90 && (Value.agg #[.int .i64 a,.int .i64 b]).formed Tryz.prog 90) = true:=by kernel_rfl
  have g : Tryz.prog.keyLits (Tryz.prog.types.size + 1) 90 [.int .i64 a,.int .i64 b] = some [.int .i64 a,.int .i64 b]:=by
    rw [y6w];unfold Program.keyLits;rw [Tryz.underlying90];have c : Tryz.prog.cellsOf 90 = 2:=by kernel_rfl
    have d : Tryz.prog.cellsOf 3 = 1:=by kernel_rfl
    simp [c,d,Vp h,Vp i]
  rw [Tryz.underlying90];simp only [f,if_true,Value.cells,g,Option.map_some]
theorem Ko : KeyLaw Tryz.prog 90:=deep_law_laid (by kernel_rfl) (m:=3) (by omega) (of_decide_eq_true (by kernel_rfl)) (by kernel_rfl) (by kernel_rfl)
def Bu : MT:={ k:=90,e:=3,K:=Int × Int,V:=Int,dom:=fun x=>(Lit.int .i64 x.1).wf = true ∧ (Lit.int .i64 x.2).wf = true,kv:=fun x=>.agg #[.int .i64 x.1,.int .i64 x.2],kl:=fun x=>.string (keyBytes [.int .i64 x.1,.int .i64 x.2]),ev:=fun v=>.int .i64 v }
instance : DecidableEq Bu.K:=inferInstanceAs (DecidableEq (Int × Int))
theorem y0i {x y : Int × Int} (d : Bu.dom x) (f : Bu.dom y) (h : Bu.kl x = Bu.kl y) : x = y:=by
  have g:=Np d.1 d.2;have c:=Np f.1 f.2;have e : keyBytes [.int .i64 x.1,.int .i64 x.2] = keyBytes [.int .i64 y.1,.int .i64 y.2]:=by injection h
  rw [← e] at c;have:=Ko.inj g c
  injection this with this
  have a:=congrArg (fun q : Array Value=>q[0]?) this;have b:=congrArg (fun q : Array Value=>q[1]?) this;simp at a b;exact Prod.ext a b
theorem Vq : Bu.Ok Tryz.prog:=⟨Keyed.of_law Ko,fun x a=>Np a.1 a.2,fun x y a b h=>y0i a b h⟩
theorem y6x : ∀ (v : Value) (l : Lit),keyOf Tryz.prog Bu.k v = some l → ∀ x,Bu.dom x → l = Bu.kl x → v = Bu.kv x:=fun v l h x a e=>by
  subst e
  exact Ko.inj h (Np a.1 a.2)
theorem x6o : ∀ w,(zeroValue 3).run Tryz.prog w = .ok (.int .i64 0) w:=fun w=>by kernel_rfl
structure Fl where
  p : Pk
  s : Ad
  alone : Bool
  recd : Bool
  gone : Bool
def Fl.cells (f : Fl) : Array Value:=#[.int .i64 f.p.kind,.bool f.p.dup,.bool f.p.retain,.int .i64 f.p.qos,.int .i64 f.p.id,.string f.p.topic,.slice f.s.pa f.p.pay.length f.s.pc,.int .i64 f.p.level,.string f.p.client,.bool f.p.clean,.int .i64 f.p.keep,.bool f.p.hasWill,.string f.p.wt,.slice f.s.wa f.p.wp.length f.s.wc,.int .i64 f.p.wq,.bool f.p.wr,.bool f.p.hasUser,.bool f.p.hasPass,.string f.p.user,.slice f.s.sa f.p.pass.length f.s.sc,.bool f.p.present,.int .i64 f.p.code,.slice f.s.ua f.p.subs.length f.s.uc,.slice f.s.ca f.p.codes.length f.s.cc,.bool f.alone,.bool f.recd,.bool f.gone]
def Fl.zero : Fl:=⟨{},s0,false,false,false⟩
def Fo : MT:={ k:=3,e:=137,K:=Int,V:=Fl,dom:=fun x=>(Lit.int .i64 x).wf = true,kv:=fun x=>.int .i64 x,kl:=fun x=>.int .i64 x,ev:=fun f=>.agg f.cells }
instance : DecidableEq Fo.K:=inferInstanceAs (DecidableEq Int)
theorem Jl : Fo.Ok Tryz.prog:=⟨Go.Maps.int_keyed U3,fun x a=>Maps.keyOf_int_mk U3 a,fun x y _ _ h=>by injection h⟩
theorem y0j : ∀ w,(zeroValue 137).run Tryz.prog w = .ok (.agg Fl.zero.cells) w:=fun w=>by kernel_rfl
theorem IsAss.mapB {M : MT} [DecidableEq M.K] {P : Program} {w : World} {m : Nat} {E : List (M.K × M.V)} (h : IsAss M P w m E) : MapB w m:=by
  obtain ⟨_,_,D,⟨b,a,c,d⟩,r⟩:=h;exact ⟨b,a,c⟩
theorem IsAss.nB {M : MT} [DecidableEq M.K] {P : Program} {w : World} {m g : Nat} {t : TypeId} {cs : Array Value} {E : List (M.K × M.V)} (h : IsAss M P w m E) (b : Blk w g t cs) : m ≠ g:=fun e=>by
  subst e
  exact b.not_map (IsAss.mapB h)
theorem Br {M : MT} [DecidableEq M.K] {P : Program} {w : World} {m : Nat} {E : List (M.K × M.V)} {e size n c : Nat} {A : Option Addr} {xs : List Value} (h : IsAss M P w m E) (o : Own w e size (.slice A n c) n xs) : m ∉ (Value.slice A n c).ownBlock.toList:=fun hm=>by
  have hb : (Value.slice A n c).ownBlock = some m:=by simpa using hm
  obtain ⟨_,f,b⟩:=o.blk m hb
  obtain ⟨g,d,a⟩:=IsAss.mapB h
  rw [b] at a
  cases a
end Go.Proofs.YtkdeedhjkjffpaaGreat
namespace Go.Proofs.YtkdeedhjkjffpaaGreat
open Go.RowKit Go.Hub
def pkRow (l : List (Pk × Ad)) : List Value:=l.flatMap fun x=>(x.1.cells x.2).toList
theorem I6 (l r : List (Pk × Ad)) : pkRow (l ++ r) = pkRow l ++ pkRow r:=List.flatMap_append
theorem Hj (x : Pk × Ad) : pkRow [x] = (x.1.cells x.2).toList:=by simp [pkRow]
theorem Pk.one1 (p : Pk) (s : Ad) : ∀ u ∈ (p.cells s).toList,u.oneCell' = true:=fun u a=>by
  have:=Pk.cells_one p s
  rw [← Array.all_toList] at this
  exact List.all_eq_true.1 this u a
theorem Q0 (l : List (Pk × Ad)) : ∀ u ∈ pkRow l,u.oneCell' = true:=fun u a=>by
  obtain ⟨x,_,h⟩:=List.mem_flatMap.1 a
  exact Pk.one1 x.1 x.2 u h
theorem _root_.Go.Hub.Blk.slN {w : World} {g : Nat} {t : TypeId} {cs : Array Value} (h : Blk w g t cs) {n size : Nat} (a : cs.size = n * size) : Sl w (some ⟨g,0,none⟩) n size cs.toList:=
  ⟨by simp [a],fun _=>⟨g,0,rfl,h.lt,fun j u b=>by rw [Nat.zero_add]; exact h.cl b⟩⟩
theorem Sl1 {w : World} {g : Nat} {t : TypeId} (p : Pk) (s : Ad) (B : Blk w g t (p.cells s)) : Sl w (some ⟨g,0,none⟩) 1 24 (p.cells s).toList:=B.slN (n:=1) (size:=24) rfl
abbrev Row (w : World) (A : Option Addr) (c : Nat) (l : List (Pk × Ad)) : Prop:=Own w 39 24 (.slice A l.length c) l.length (pkRow l)
theorem Row.cell0 {w : World} {A : Option Addr} {c : Nat} {x : Pk × Ad} {r : List (Pk × Ad)} (h : Row w A c (x :: r)) (j : Nat) {u : Value} (a : (x.1.cells x.2).toList[j]? = some u) : ∃ b off,A = some ⟨b,off,none⟩ ∧ w.cell? ⟨b,off + j,none⟩ = some u:=by
  have S:=Sl.oO h;obtain ⟨b,off,e⟩:=S.addr (by simp);refine ⟨b,off,e,S.cell (by simp) e ?_⟩;have : pkRow (x :: r) = (x.1.cells x.2).toList ++ pkRow r:=by simp [pkRow]
  rw [this,List.getElem?_append_left (List.getElem?_eq_some_iff.1 a).1];exact a
structure PkO (W : World) (p : Pk) (s : Ad) : Prop where
  pay : Bs [5] 0 W s.pa p.pay.length p.pay
  wp : Bs [5] 0 W s.wa p.wp.length p.wp
  pass : Bs [5] 0 W s.sa p.pass.length p.pass
  subs : Cs [79] 0 W s.ua p.subs.length 2 (subCells p.subs)
  codes : Own W 3 1 (.slice s.ca p.codes.length s.cc) p.codes.length (codeCells p.codes)
section
variable {w W W' : World} {p : Pk} {s : Ad} {x t : Nat} {cs : Array Value}
theorem PkF.o (h : PkF w W p s) : PkO W p s:=⟨Bs.oO h.pay.own (by simp),Bs.oO h.wp.own (by simp),Bs.oO h.pass.own (by simp),Cs.oO h.subs.own (by simp),h.codes.own⟩
theorem PkO.toIn (h : PkO W p s) : p.In W s:=⟨h.pay.toSl,h.wp.toSl,h.pass.toSl,Sl.of_rds h.subs.rds,Sl.oO h.codes⟩
theorem x6p {L : List Nat} {e size n c : Nat} {A : Option Addr} {xs : List Value} (h : Own W e size (.slice A n c) n xs) (i : Kept L W W') (f : ∀ y ∈ L,y < W.heap.size → ¬ Typ W y [e]) : Own W' e size (.slice A n c) n xs:=h.kept i fun b g j=>by
  obtain ⟨a,cs,d⟩:=h.blk b g
  exact f b j a ⟨cs,e,_,d,by simp⟩
theorem PkO.kT {L : List Nat} (h : PkO W p s) (f : Kept L W W') (d : ∀ y ∈ L,y < W.heap.size → ¬ Typ W y [5,79,3]) : PkO W' p s:=by
  have g : Same [5] 0 W W':=Same.of_kept f fun y c a=>⟨Nat.zero_le _,fun b=>d y c a (b.mono (by simp))⟩;exact ⟨h.pay.same g,h.wp.same g,h.pass.same g,h.subs.same (Same.of_kept f fun y c a=>⟨Nat.zero_le _,fun b=>d y c a (b.mono (by simp))⟩),x6p h.codes f fun y c a b=>d y c a (b.mono (by simp))⟩
theorem PkO.k0 (h : PkO W p s) (a : Kept [] W W') : PkO W' p s:=h.kT a (by simp)
end
abbrev PkS (B : Nat) (W : World) (p : Pk) (s : Ad) : Prop:=Pk.Ok [5,79,3] B W p s
theorem PkS.toIn {B : Nat} {W : World} {p : Pk} {s : Ad} (h : PkS B W p s) : p.In W s:=⟨h.pay.toSl,h.wp.toSl,h.pass.toSl,Sl.of_rds h.subs.rds,Sl.of_rds h.codes.rds⟩
theorem PkS.kT {B : Nat} {W b : World} {p : Pk} {s : Ad} {L : List Nat} (h : PkS B W p s) (g : Kept L W b) (f : ∀ y ∈ L,y < W.heap.size → ¬ Typ W y [5,79,3]) (d : ∀ y ∈ L,B ≤ y) : PkS B b p s:=
  Pk.Ok.same h (Same.of_kept g fun y c a=>⟨d y c,f y c a⟩)
theorem PkS.k0 {B : Nat} {W a : World} {p : Pk} {s : Ad} (h : PkS B W p s) (b : Kept [] W a) : PkS B a p s:=h.kT b (by simp) (by simp)
theorem _root_.Go.Hub.Bs.up {E c : List TypeId} {B B' : Nat} {w : World} {A : Option Addr} {n : Nat} {l : List UInt8} (h : Bs E B w A n l) (f : ∀ x ∈ E,x ∈ c) (d : B ≤ B') : Bs c B' w A n l:=⟨h.1,fun j=>by
    obtain ⟨b,a,e,g,k,i⟩:=h.2 j
    exact ⟨b,a,e,g,k.imp (fun h=>Nat.lt_of_lt_of_le h d) (fun h=>h.mono f),i⟩⟩
theorem _root_.Go.Hub.Cs.up {E c : List TypeId} {B B' : Nat} {w : World} {A : Option Addr} {n size : Nat} {xs : List Value} (h : Cs E B w A n size xs) (f : ∀ x ∈ E,x ∈ c) (d : B ≤ B') : Cs c B' w A n size xs:=⟨h.1,fun j=>by
    obtain ⟨b,a,e,g,k,i⟩:=h.2 j
    exact ⟨b,a,e,g,k.imp (fun h=>Nat.lt_of_lt_of_le h d) (fun h=>h.mono f),i⟩⟩
theorem PkO.ok {B : Nat} {W : World} {p : Pk} {s : Ad} (h : PkO W p s) : PkS B W p s:=⟨h.pay.up (by simp) (Nat.zero_le _),h.wp.up (by simp) (Nat.zero_le _),h.pass.up (by simp) (Nat.zero_le _),h.subs.up (by simp) (Nat.zero_le _),Cs.oO h.codes (by simp)⟩
def PksO (w : World) (l : List (Pk × Ad)) : Prop:=∀ x ∈ l,PkO w x.1 x.2 ∧ x.1.Len
def FlsO (w : World) (l : List (Int × Fl)) : Prop:=∀ x ∈ l,PkO w x.2.p x.2.s ∧ x.2.p.Len
def NoPk (w : World) (L : List Nat) : Prop:=∀ y ∈ L,y < w.heap.size → ¬ Typ w y [5,79,3]
section
variable {w W : World} {L : List Nat} {l : List (Pk × Ad)} {o : List (Int × Fl)} {x t m : Nat} {cs : Array Value}
theorem PksO.kT (h : PksO w l) (c : Kept L w W) (b : NoPk w L) : PksO W l:=fun x a=>⟨(h x a).1.kT c b,(h x a).2⟩
theorem FlsO.kT (h : FlsO w o) (c : Kept L w W) (b : NoPk w L) : FlsO W o:=fun x a=>⟨(h x a).1.kT c b,(h x a).2⟩
theorem NoPk.nil (w : World) : NoPk w []:=fun y a=>absurd a (by simp)
theorem NoPk.blk (b : Blk w x t cs) (a : t ∉ [5,79,3]) : NoPk w [x]:=fun y c _=>by
  obtain rfl:=List.mem_singleton.1 c
  exact b.not_typ a
theorem NoPk.map {M : MT} [DecidableEq M.K] {P : Program} {E : List (M.K × M.V)} (h : IsAss M P w m E) : NoPk w [m]:=fun y b _ a=>by
  obtain rfl:=List.mem_singleton.1 b
  exact a.not_map (IsAss.mapB h)
theorem NoPk.own {A : Option Addr} {n c : Nat} {xs : List Value} (h : Own w 39 24 (.slice A n c) n xs) : NoPk w (Value.slice A n c).ownBlock.toList:=fun y hy hlt ht=>by
  have hb : (Value.slice A n c).ownBlock = some y:=by simpa using hy
  obtain ⟨_,cs,e⟩:=h.blk y hb
  obtain ⟨b,f,g,a,d⟩:=ht
  rw [e] at a
  injection a with a
  injection a with _ h2
  subst h2
  simp at d
theorem PksO.app {r : List (Pk × Ad)} (h : PksO w l) (b : PksO w r) : PksO w (l ++ r):=fun x a=>by
  rcases List.mem_append.1 a with a | a
  · exact h x a
  exact b x a
theorem PksO.one {p : Pk} {s : Ad} (h : PkO w p s) (a : p.Len) : PksO w [(p,s)]:=fun x b=>by
  obtain rfl:=List.mem_singleton.1 b
  exact ⟨h,a⟩
theorem PksO.tail {a : Pk × Ad} (h : PksO w (a :: l)) : PksO w l:=fun x b=>h x (by simp [b])
theorem FlsO.strike (h : FlsO w o) (i : Int) : FlsO w (strike o i):=fun x a=>h x (List.mem_filter.1 a).1
theorem FlsO.put (h : FlsO w o) (i : Int) {f : Fl} (b : PkO w f.p f.s) (c : f.p.Len) : FlsO w ((i,f) :: Go.Hub.strike o i):=fun x a=>by
  rcases List.mem_cons.1 a with rfl | a
  · exact ⟨b,c⟩
  exact h.strike i x a
theorem FlsO.at_ (h : FlsO w o) {i : Int} {f : Fl} (a : lk o i = some f) : PkO w f.p f.s ∧ f.p.Len:=h _ (Ni a)
end
abbrev FlP:=Pk × Bool × Bool × Bool
def Fl.pure (f : Fl) : FlP:=(f.p,f.alone,f.recd,f.gone)
structure Tr where
  clean : Bool
  gr : Pk
  greeted : Bool
  told : List Pk
  left : Bool
  subs : List Pk
  unsubs : List Pk
  owed : List ((Int × Int) × Int)
  out : List (Int × FlP)
def Tr.owe (t : Tr) (k : Int × Int) : Tr:={ t with owed:=(k,(lk t.owed k).getD 0 + 1) :: strike t.owed k }
def Tr.ackT (t : Tr) (p : Pk) : Tr:=
  if p.kind = 6 then t.owe (7,p.id) else match lk t.out p.id with
  | none=>t
  | some f => if (p.kind = 4 ∧ f.1.qos = 1) ∨ (p.kind = 7 ∧ f.2.2.2 = true) then { t with out := strike t.out p.id }
    else if p.kind = 5 ∧ f.1.qos = 2 then { t with out:=(p.id,(f.1,f.2.1,true,f.2.2.2)) :: strike t.out p.id } else t
def Tr.msgT (t : Tr) (p : Pk) : Tr:=if 0 < p.qos then t.owe (if p.qos = 1 then 4 else 5,p.id) else t
def Tr.inT (t : Tr) (p : Pk) : Tr:=
  if t.left = true ∨ t.greeted = decide (p.kind = 1) then t
  else if p.kind = 1 then { t with gr:=p,greeted:=true }
  else if p.kind = 3 then t.msgT p
  else if (4 ≤ p.kind ∧ p.kind ≤ 7) ∨ p.kind = 9 ∨ p.kind = 11 then t.ackT p
  else if p.kind = 8 then { t with subs:=t.subs ++ [p] }
  else if p.kind = 10 then { t with unsubs:=t.unsubs ++ [p] }
  else if p.kind = 12 then { t with left:=false }.owe (13,0)
  else if p.kind = 13 ∨ p.kind = 14 then { t with left:=decide (p.kind = 14) }
  else t
def Tr.readyB (t : Tr) : Bool:=match t.told with | []=>false | c :: _=>decide (c.code = 0)
def Tr.connT (t : Tr) (p : Pk) : Bool × Tr:=
  if t.greeted = false ∨ t.told ≠ [] ∨ (p.present = true ∧ (t.clean = true ∨ t.gr.clean = true)) then (false,t) else (true,{ t with told:=[p] })
def Tr.payT (t : Tr) (k : Int × Int) : Bool × Tr:=
  if (lk t.owed k).getD 0 = 0 then (false,t) else (true,{ t with owed:=(k,(lk t.owed k).getD 0 - 1) :: strike t.owed k })
def Tr.pubT (t : Tr) (p : Pk) : Bool × Tr:=
  if p.qos = 0 then (true,t) else match lk t.out p.id with
  | none=>(true,{ t with out:=(p.id,(p,false,false,false)) :: strike t.out p.id })
  | some f=>(p.dup && !f.2.1 && !f.2.2.1 && Gr { f.1 with dup:=p.dup,retain:=p.retain } p,t)
def Tr.relT (t : Tr) (p : Pk) : Bool × Tr:=
  match lk t.out p.id with
  | none=>if (t.told.head?.map (·.present)) = some true then (true,{ t with out:=(p.id,({ kind:=3,qos:=2,id:=p.id },true,true,true)) :: strike t.out p.id }) else (false,t)
  | some f=>if f.1.qos ≠ 2 ∨ f.2.2.1 = false then (false,t) else (true,{ t with out:=(p.id,(f.1,f.2.1,f.2.2.1,true)) :: strike t.out p.id })
def Gx : List (ByteArray × Int) → List Int → Bool
  | x :: r,c :: q=>(decide (c = 128) || decide (c = x.2)) && Gx r q
  | _,_=>true
def Tr.subT (t : Tr) (p : Pk) : Bool × Tr:=
  match t.subs with
  | []=>(false,t)
  | q :: r=>if q.id ≠ p.id ∨ q.subs.length ≠ p.codes.length ∨ Gx q.subs p.codes = false then (false,t) else (true,{ t with subs:=r })
def Tr.unsT (t : Tr) (p : Pk) : Bool × Tr:=
  match t.unsubs with
  | []=>(false,t)
  | q :: r=>if q.id ≠ p.id then (false,t) else (true,{ t with unsubs:=r })
def Tr.outT (t : Tr) (p : Pk) : Bool × Tr:=
  if p.kind = 2 then t.connT p else if t.readyB = false then (false,t)
  else if p.kind = 3 then t.pubT p else if p.kind = 6 then t.relT p else if p.kind = 9 then t.subT p else if p.kind = 11 then t.unsT p
  else if p.kind = 4 ∨ p.kind = 5 ∨ p.kind = 7 then t.payT (p.kind,p.id) else if p.kind = 13 then t.payT (13,0) else (false,t)
def Tr.owedI (t : Tr) : Int:=t.subs.length + t.unsubs.length + (t.owed.map (·.2)).sum
def bk (A : Option Addr) : List Nat:=(A.map (·.block)).toList
def fp (g mo mf : Nat) (At Au An : Option Addr) : List Nat:=g :: mo :: mf :: (bk At ++ (bk Au ++ bk An))
def Apart (A A' : Option Addr) : Prop:=∀ b,A.map (·.block) = some b → A'.map (·.block) ≠ some b
def T4 (t : Tr) (gs : Ad) (told subs uns : Nat) (At Au An : Option Addr) (ct cu cn mo mf : Nat) : Array Value:=#[.bool t.clean,.int .i64 t.gr.kind,.bool t.gr.dup,.bool t.gr.retain,.int .i64 t.gr.qos,.int .i64 t.gr.id,.string t.gr.topic,.slice gs.pa t.gr.pay.length gs.pc,.int .i64 t.gr.level,.string t.gr.client,.bool t.gr.clean,.int .i64 t.gr.keep,.bool t.gr.hasWill,.string t.gr.wt,.slice gs.wa t.gr.wp.length gs.wc,.int .i64 t.gr.wq,.bool t.gr.wr,.bool t.gr.hasUser,.bool t.gr.hasPass,.string t.gr.user,.slice gs.sa t.gr.pass.length gs.sc,.bool t.gr.present,.int .i64 t.gr.code,.slice gs.ua t.gr.subs.length gs.uc,.slice gs.ca t.gr.codes.length gs.cc,.bool t.greeted,.slice At told ct,.bool t.left,.slice Au subs cu,.slice An uns cn,.map (some mo),.map (some mf)]
structure TrM where
  gs : Ad
  told : List (Pk × Ad)
  subs : List (Pk × Ad)
  uns : List (Pk × Ad)
  out : List (Int × Fl)
  At : Option Addr
  Au : Option Addr
  An : Option Addr
  ct : Nat
  cu : Nat
  cn : Nat
  mo : Nat
  mf : Nat
  n : Nat
abbrev Xs (t : Tr) (m : TrM) : Array Value:=T4 t m.gs m.told.length m.subs.length m.uns.length m.At m.Au m.An m.ct m.cu m.cn m.mo m.mf
structure TrIn (B : Nat) (w : World) (g : Nat) (t : Tr) (m : TrM) : Prop where
  e1 : t.told = m.told.map (·.1)
  e2 : t.subs = m.subs.map (·.1)
  e3 : t.unsubs = m.uns.map (·.1)
  e4 : t.out = m.out.map fun p=>(p.1,p.2.pure)
  bt : Blk w g 71 (T4 t m.gs m.told.length m.subs.length m.uns.length m.At m.Au m.An m.ct m.cu m.cn m.mo m.mf)
  rt : Row w m.At m.ct m.told
  rs : Row w m.Au m.cu m.subs
  ru : Row w m.An m.cn m.uns
  mo : IsAss Bu Tryz.prog w m.mo t.owed
  mf : IsAss Fo Tryz.prog w m.mf m.out
  nof : m.mo ≠ m.mf
  tu : Apart m.At m.Au
  tn : Apart m.At m.An
  un : Apart m.Au m.An
  lo : ∀ x ∈ fp g m.mo m.mf m.At m.Au m.An,B ≤ x
  ps : PksO w m.subs
  pf : FlsO w m.out
  len : m.told.length ≤ m.n ∧ m.subs.length ≤ m.n ∧ m.uns.length ≤ m.n ∧ t.owed.length ≤ m.n ∧ m.out.length ≤ m.n ∧ ∀ p ∈ t.owed,0 ≤ p.2 ∧ p.2 ≤ (m.n : Int)
end Go.Proofs.YtkdeedhjkjffpaaGreat
namespace Go.Proofs.YtkdeedhjkjffpaaGreat
open Go.RowKit Go.Hub Go.Lib Go.Vl
theorem Ul : (Tryz.prog.info? 61).map (fun i=>(i.zero,i.size,i.bytes)) = some (some (.agg #[(.int .i64 0),(.int .i64 0),(.slice none 0 0),(.bool false)]),4,48):=by kernel_rfl
theorem Zj1 : (Tryz.prog.info? 61).map (fun i=>(i.zero,i.size)) = some (some (.agg #[(.int .i64 0),(.int .i64 0),(.slice none 0 0),(.bool false)]),4):=by kernel_rfl
theorem Zk1 (a b c d : Value) : Instr.fill (fun i=>some (i * 4,4)) ((Array.range (1 * 4)).map fun j=>(Value.cells (.agg #[(.int .i64 0),(.int .i64 0),(.slice none 0 0),(.bool false)]))[j % (Value.cells (.agg #[(.int .i64 0),(.int .i64 0),(.slice none 0 0),(.bool false)])).size]!) [(0,.agg #[a,b,c,d])] = some #[a,b,c,d]:=by kernel_rfl
theorem Zl1 (a : Int) (b : Option Addr) (c d : Nat) : Tryz.prog.built 61 [(1,.int .i64 a),(2,.slice b c d)] = some #[(.int .i64 0),.int .i64 a,.slice b c d,(.bool false)]:=by kernel_rfl
theorem Zm1 (r s t u v w x y z a0 a b c d f g h k l m n o p q : Value) : Instr.fill (fun i=>some (i * 24,24)) ((Array.range (1 * 24)).map fun j=>(Value.cells (.agg #[(.int .i64 0),(.bool false),(.bool false),(.int .i64 0),(.int .i64 0),(.string ⟨#[]⟩),(.slice none 0 0),(.int .i64 0),(.string ⟨#[]⟩),(.bool false),(.int .i64 0),(.bool false),(.string ⟨#[]⟩),(.slice none 0 0),(.int .i64 0),(.bool false),(.bool false),(.bool false),(.string ⟨#[]⟩),(.slice none 0 0),(.bool false),(.int .i64 0),(.slice none 0 0),(.slice none 0 0)]))[j % (Value.cells (.agg #[(.int .i64 0),(.bool false),(.bool false),(.int .i64 0),(.int .i64 0),(.string ⟨#[]⟩),(.slice none 0 0),(.int .i64 0),(.string ⟨#[]⟩),(.bool false),(.int .i64 0),(.bool false),(.string ⟨#[]⟩),(.slice none 0 0),(.int .i64 0),(.bool false),(.bool false),(.bool false),(.string ⟨#[]⟩),(.slice none 0 0),(.bool false),(.int .i64 0),(.slice none 0 0),(.slice none 0 0)])).size]!) [(0,.agg #[r,s,t,u,v,w,x,y,z,a0,a,b,c,d,f,g,h,k,l,m,n,o,p,q])] = some #[r,s,t,u,v,w,x,y,z,a0,a,b,c,d,f,g,h,k,l,m,n,o,p,q]:=by kernel_rfl
structure Oc where
  cl : Bool
  l : List UInt8
  A : Option Addr
  c : Nat
abbrev ocell (x : Oc) : List Value:=[.int .i64 0,.int .i64 0,.slice x.A x.l.length x.c,.bool x.cl]
structure OutsAt (B : Nat) (w0 W : World) (A : Option Addr) (c : Nat) (l : List Oc) : Prop where
  fr : Fresh w0 W 61 4 A l.length c (l.flatMap ocell)
  by_ : ∀ x ∈ l,Bs [5] B W x.A x.l.length x.l ∧ x.l.length ≤ x.c ∧ x.l.length ≤ 1000000
structure EncL (o : List Oc) (ps : List Pk) : Prop where
  enc : o.map (·.l) = ps.map Fu
  cl : ∀ x ∈ o,x.cl = false
  right : ∀ p ∈ ps,RightP p
section
variable {B : Nat} {w0 w1 w W : World} {A A' : Option Addr} {c c' : Nat} {l r : List Oc} {T : List TypeId} {M : List Nat}
theorem OutsAt.nil (B : Nat) (w0 W : World) : OutsAt B w0 W none 0 []:=⟨Fresh.nil _ _ _ _,by simp⟩
theorem OutsAt.mod (h : OutsAt B w0 w A c l) (b : Mod T M B w W) (a : (61 : TypeId) ∉ T ∧ (5 : TypeId) ∉ T) : OutsAt B w0 W A c l:=⟨h.fr.mod b a.1,fun x d=>⟨(h.by_ x d).1.mod b (by simpa using a.2),(h.by_ x d).2⟩⟩
theorem OutsAt.k0 (h : OutsAt B w0 w A c l) (a : Kept [] w W) : OutsAt B w0 W A c l:=h.mod (T:=[]) (M:=[]) (.o0 a) (by simp)
theorem OutsAt.lw (h : OutsAt B w0 W A c l) (a : w1.heap.size ≤ w0.heap.size) : OutsAt B w1 W A c l:=⟨h.fr.lw a,h.by_⟩
theorem Dr (l : List Oc) : ∀ u ∈ l.flatMap ocell,u.oneCell' = true:=fun u a=>by
  obtain ⟨x,_,h⟩:=List.mem_flatMap.1 a
  simp only [ocell,List.mem_cons,List.not_mem_nil,or_false] at h
  rcases h with rfl | rfl | rfl | rfl <;> rfl
theorem y6z {g t : Nat} {x : Oc} (b : Blk W g t #[.int .i64 0,.int .i64 0,.slice x.A x.l.length x.c,.bool x.cl]) : Sl W (some ⟨g,0,none⟩) 1 4 ([x].flatMap ocell):=
  ⟨by simp,fun _=>⟨g,0,rfl,b.lt,fun j u a=>by rw [Nat.zero_add]; exact b.cl a⟩⟩
theorem OutsAt.app (h : OutsAt B w0 w A c l) (i : B ≤ w0.heap.size) (d : App w W 61 4 A l.length c (l.flatMap ocell) (r.flatMap ocell) r.length A' c') (hw : w0.heap.size ≤ w.heap.size) (g : ∀ x ∈ r,Bs [5] B w x.A x.l.length x.l ∧ x.l.length ≤ x.c ∧ x.l.length ≤ 1000000) : OutsAt B w0 W A' c' (l ++ r):=by
  have f : Mod [61] [] B w W:=.of_app d h.fr.own (fun a j=>Nat.le_trans i (h.fr.from a j)) (by simp);refine ⟨by simpa using d.next h.fr hw,fun y b=>?_⟩
  rcases List.mem_append.1 b with b | b
  · exact ⟨(h.by_ y b).1.mod f (by decide),(h.by_ y b).2⟩
  exact ⟨(g y b).1.mod f (by decide),(g y b).2⟩
theorem EncL.nil : EncL [] []:=⟨rfl,by simp,by simp⟩
theorem EncL.app {o b : List Oc} {ps d : List Pk} (h : EncL o ps) (k : EncL b d) : EncL (o ++ b) (ps ++ d):=⟨by rw [List.map_append,List.map_append,h.enc,k.enc],fun x a=>(List.mem_append.1 a).elim (h.cl x) (k.cl x),fun x a=>(List.mem_append.1 a).elim (h.right x) (k.right x)⟩
theorem EncL.one {p : Pk} (h : RightP p) (A : Option Addr) (c : Nat) : EncL [⟨false,Fu p,A,c⟩] [p]:=⟨rfl,by simp,by simpa using h⟩
theorem EncL.next {q : List (Pk × Ad)} {k : Nat} {o : List Oc} {x : Pk × Ad} {A : Option Addr} {c : Nat} (h : EncL o ((q.take k).map (·.1))) (b : q[k]? = some x) (a : RightP x.1) : EncL (o ++ [⟨false,Fu x.1,A,c⟩]) ((q.take (k + 1)).map (·.1)):=by
  rw [List.take_add_one,b,List.map_append];exact h.app (EncL.one a A c)
end
def Xt (B : Nat) (ps : List Pk) (w : World) (e : Ending) (w' : World) : Prop:=∃ A c out,e = .returned (.slice A (out : List Oc).length c) ∧ Kept [] w w' ∧ EncL out ps ∧ OutsAt B w w' A c out
theorem y0k {p : Pk} (h : RightP p) : (Fu p).length ≤ 1000000:=by
  have a:=h.len;have b:=Md ((Ac p).length : Int);rw [Uy];omega
theorem x6q (p : Pk) (s : Ad) (w : World) (d : p.In w s) (f : p.Len) (a : RightP p) : Calls Tryz.prog 45 #[.agg (p.cells s)] w (fun e w'=>Kept [] w w' ∧ ∃ A c,e = .returned (.tuple #[.slice A (Fu p).length c,.int .i64 0]) ∧ Fresh w w' 5 1 A (Fu p).length c ((Fu p).map u8) ∧ (Fu p).length ≤ c ∧ (Fu p).length ≤ 1000000):=by
  refine (Sj p s w d f a).mono ?_;rintro e w' ⟨g,A,c,rfl,b⟩;exact ⟨g,A,c,rfl,b,Gw (Fresh.own b),y0k a⟩
theorem y4h {W : World} {g t : Nat} {p : Pk} {s : Ad} (b : Blk W g t (p.cells s)) : Sl W (some ⟨g,0,none⟩) 1 24 (pkRow [(p,s)]):=by
  rw [Hj];exact ⟨rfl,fun _=>⟨g,0,rfl,b.lt,fun j u a=>by rw [Nat.zero_add]; exact b.cl a⟩⟩
theorem x6r (B : Nat) (l : List (Pk × Ad)) (A : Option Addr) (c : Nat) (w : World) (hB : B ≤ w.heap.size) (SL : Sl w A l.length 24 (pkRow l)) (IN : ∀ x ∈ l,x.1.In w x.2 ∧ x.1.Len ∧ RightP x.1) (hl : l.length ≤ 1000) : Calls Tryz.prog 29 #[.int .i64 0,.slice A l.length c] w (Xt B (l.map (·.1)) w):=by
 have g : Kept [] w w:=Kept.refl [] w;refine Bw Tryz.func29 Tryz.ntmps29 fun _ f=>?_;refine pr f fun _ f=>?_;refine pr f fun _ f=>?_;refine wp_seq_k fun _ k1=>?_;refine pr f fun _ f=>?_;refine wp_block ?_;refine C.loop (fun gk a W=>∃ (k : Nat) (h : List Oc) (A2 : Option Addr) (c2 : Nat),k + gk = l.length ∧ h.length = k ∧ EncL h ((l.take k).map (·.1)) ∧ OutsAt B w W A2 c2 h ∧ Kept [] w W ∧ Fr 32 a [(0,.int .i64 0),(1,.slice A l.length c),(5,.slice A2 h.length c2),(6,.int .i64 k)]) (l.length) ?_ ?_
 ·exact ⟨0,[],none,0,by omega,rfl,EncL.nil,OutsAt.nil _ _ _,g,f.sub (sx (sx (sx (sx sn))))⟩
 intro a6 _ w1 hI ap t;obtain ⟨k,h,A2,c2,hk,aw,EN,m,g,d⟩:=hI
 try clear f
 refine wp_seq_k fun _ k2=>?_;refine pr d fun _ f=>?_;refine f.sD 12 rfl (fun h0 f=>?_) (fun h0 f=>?_)
 ·obtain ⟨x,hx⟩:=Bn l k (by omega);obtain ⟨b,b0,hA⟩:=SL.addr (by omega);have j:=IN x (List.mem_of_getElem? hx);refine C.cT f rfl ?_;refine wp_skip (k2 _ _ ?_);have d:=f.pk [0,1,5,6,9,10,11,12];refine wp_seq_k fun _ k2=>?_;refine wp_block ?_;refine C.sk fun _ k3=>?_;(iterate 3 refine L.s d fun _ d=>?_);refine L.va d (E.loadR d U39 rfl Z8 rfl ((Sl.row (i:=k) (cs:=(x.1.cells x.2).toList) (SL.kept g) (by omega) hA (Fk (fun x : Pk × Ad=>(x.1.cells x.2).toList) 24 (fun _=>rfl) l k x hx))) rfl) fun _ d=>?_;refine L.cl d (Dt d Tryz.call45) (x6q x.1 x.2 _ (j.1.kept g) j.2.1 j.2.2) ?_;rintro e w2 ⟨q,Ap,cp,rfl,p,u,a7⟩;refine ⟨_,rfl,fun _ d=>?_⟩;have ai:=q.size;replace g:=g.z q;replace m:=m.k0 q;clear q;refine pe d k3 fun _ d=>?_;refine C.sk fun _ k3=>?_;(iterate 2 refine L.s d fun _ d=>?_);have d:=d.as (i:=24) (v':=.bool true) rfl (by rfl);refine wn k3 ?_;refine C.cT d rfl ?_;refine C.region ?_;(iterate 3 refine L.s d fun _ d=>?_);refine L.bd d (Zl1 _ _ _ _) fun _ d=>?_;refine L.buildSlice d Aa (by decide) (pL d rfl) U44 Zj1 rfl rfl (Zk1 _ _ _ _) fun _ w3 g2 N d=>?_;obtain ⟨a3,q,a0,ah,aj⟩:=N.al;have ae:=g.lo a0;replace g:=g.z q;replace m:=m.k0 q;replace p:=Fresh.k0 p q;clear N q
  refine L.append d Aa (by decide) U44 Ul rfl rfl rfl rfl (m.fr.own) ((y6z (x:=⟨false,Fu x.1,Ap,cp⟩) a3)) (fun v hv=>Dr [_] v hv) (by unfold maxLen; omega) (by omega) fun _ w4 Ay cy o d=>?_;have a5:=m.app hB o g.size (r:=[⟨false,Fu x.1,Ap,cp⟩]) (by intro y hy; obtain rfl:=List.mem_singleton.1 hy; exact ⟨Bs.of_fresh p,u,a7⟩);replace g:=o.grow m.fr g;have n:=o.kept;have ak:=n.size;clear n;refine pe d k2 fun _ d=>?_;refine C.region ?_;(iterate 3 refine L.s d fun _ d=>?_);refine wpList_nil (t _ _ (a6 - 1) ?_ ?_)
  ·omega
  exact ⟨k + 1,_,_,_,by omega,by simp; omega,EncL.next EN hx j.2.2,a5,g,by simpa using d.sub (sr rfl (sr rfl (sr rfl (sr rfl sn))))⟩
 have ag:=h0;refine C.cF f rfl ?_;refine wp_exit (k1 _ _ ?_);refine rt f ?_;exact ⟨A2,c2,h,rfl,g,by rw [List.take_of_length_le (by omega)] at EN; exact EN,m⟩
theorem Kp (B : Nat) (p : Pk) (s : Ad) (w : World) (hB : B ≤ w.heap.size) (IP : p.In w s) (hL : p.Len) (hR : RightP p) : Calls Tryz.prog 34 #[.int .i64 0,.agg (p.cells s)] w (Xt B [p] w):=by
 have a : Kept [] w w:=Kept.refl [] w;refine Bw Tryz.func34 Tryz.ntmps34 fun _ f=>?_;refine C.sk fun _ k=>?_;refine L.box f Aa (by decide) rfl rfl fun _ w1 g0 N f=>?_;obtain ⟨b,q,d,r,u⟩:=N.al;have m:=a.lo d;replace a:=a.z q;clear N q;refine pe f k fun _ f=>?_;refine C.sk fun _ k=>?_;(iterate 2 refine L.s f fun _ f=>?_);refine L.buildSlice f Aa (by decide) (pL f rfl) U69 Zo rfl rfl (Zm1 _ _ _ _ _ _ _ _ _ _ _ _ _ _ _ _ _ _ _ _ _ _ _ _) fun _ w2 o N f=>?_;obtain ⟨c,q,g,t,v⟩:=N.al;have n:=a.lo g;have h : g0 ≠ o:=by have:=b.lt; omega
 replace a:=a.z q;replace b:=b.z q;clear N q;refine L.cl f (Bm f Tryz.call29) (x6r B [(p,s)] (some ⟨o,0,none⟩) 1 _ (Nat.le_trans hB a.size) (y4h c) (by intro x hx; obtain rfl:=List.mem_singleton.1 hx; exact ⟨IP.kept a,hL,hR⟩) (by simp)) ?_;rintro e w3 ⟨A2,c2,j,rfl,q,EN,i⟩;have l:=a.size;replace i:=i.lw l;refine ⟨_,rfl,fun _ f=>?_⟩;have y:=q.size;replace a:=a.z q;replace b:=b.z q;replace c:=c.z q;clear q;refine re f k ?_;exact ⟨A2,c2,j,rfl,a,EN,i⟩
end Go.Proofs.YtkdeedhjkjffpaaGreat
namespace Go.Proofs.YtkdeedhjkjffpaaGreat
open Go.RowKit Go.Hub Go.Lib
theorem Y5 : (Tryz.prog.info? 25).map (·.size) = some 1:=by kernel_rfl
theorem Zo1 : (Tryz.prog.info? 26).map (·.size) = some 16:=by kernel_rfl
theorem Zp1 : (Tryz.prog.info? 27).map (·.size) = some 1:=by kernel_rfl
theorem Zq1 : (Tryz.prog.info? 93).map (·.size) = some 1:=by kernel_rfl
def kk : ByteArray:=⟨#[107]⟩
abbrev Ic (lp SA : Option Addr) (n sc : Nat) : Array Value:=#[.pointer lp,.pointer none,.pointer none,.pointer none,.pointer none,.pointer none,.pointer none,.pointer none,.pointer none,.pointer none,.pointer none,.pointer none,.pointer none,.pointer none,.pointer none,.pointer none,.slice SA n sc]
abbrev Um (cl : ByteArray) (at_ : Int) (cn : Bool) : Array Value:=#[.slice none 0 0,.int .i64 0,.string cl,.int .i64 at_,.int .i64 0,.bool cn,.bool false,.string ⟨#[]⟩,.slice none 0 0,.int .i64 0,.bool false]
structure Bk (B : Nat) (w : World) (b lp sp : Nat) (SA : Option Addr) (sc : Nat) (at_ : Int) (cn : Bool) (s : Rs) : Prop where
  bb : Blk w b 29 (Ic (some ⟨lp,0,none⟩) SA 1 sc)
  ro : Own w 93 1 (.slice SA 1 sc) 1 [.pointer (some ⟨sp,0,none⟩)]
  lk : Blk w lp 76 (Um kk at_ cn)
  se : RefAt B w sp s
  cl : s.cl = kk
  lob : B ≤ b
  lol : B ≤ lp
  loS : ∀ a,SA = some a → B ≤ a.block
theorem Y6 {w : World} {c : Option Addr} {g b a d : Nat} (h : Own w 93 1 (.slice c 1 g) 1 [.pointer (some ⟨d,0,none⟩)]) (f : c = some ⟨b,a,none⟩) : w.cell? ⟨b,a + (0 : Int).toNat * 1,none⟩ = some (.pointer (some ⟨d,0,none⟩)):=
  (Sl.oO h).cell (j:=0) (by omega) f rfl
theorem Bk.mod {B b g j i : Nat} {w w' : World} {d : Option Addr} {at_ : Int} {f : Bool} {s : Rs} {T : List TypeId} (h : Bk B w b g j d i at_ f s) (c : Mod T [] B w w') (a : ∀ t ∈ ([29,93,76,111,185,160,58,143,79,5] : List TypeId),t ∉ T) : Bk B w' b g j d i at_ f s:=
  ⟨h.bb.mod c (a _ (by simp)),h.ro.mod c (a _ (by simp)),h.lk.mod c (a _ (by simp)),h.se.mod c (fun t k=>a t (by revert k; exact (by decide : ∀ t ∈ ([111,185,160,58,143,79,5] : List TypeId),t ∈ ([29,93,76,111,185,160,58,143,79,5] : List TypeId)) t)),h.cl,h.lob,h.lol,h.loS⟩
theorem Bk.k0 {B b d g f : Nat} {w w' : World} {a : Option Addr} {at_ : Int} {c : Bool} {s : Rs} (h : Bk B w b d g a f at_ c s) (i : Kept [] w w') : Bk B w' b d g a f at_ c s:=h.mod (T:=[]) (.o0 i) (by simp)
theorem P1 (b : Nat) (a c : Option Addr) (n g : Nat) (w : World) (h : Blk w b 29 (Ic a c n g)) : Calls Tryz.prog 23 #[.pointer (some ⟨b,0,none⟩),.int .i64 0] w (fun e w'=>w = w' ∧ e = .returned (.pointer a)):=by
 refine Bw Tryz.func23 Tryz.ntmps23 fun _ f=>?_;refine pr f fun _ f=>?_;refine wp_seq_k fun _ k=>C.sk fun _ d=>?_;(iterate 2 refine L.s f fun _ f=>?_);have f:=f.as (i:=6) (v':=.bool false) rfl (by rfl);(iterate 3 refine L.s f fun _ f=>?_);have f:=f.as (i:=9) (v':=.bool false) rfl (by rfl);refine pe f d fun _ f=>?_;refine C.cF f rfl ?_;refine wp_skip (k _ _ ?_);refine C.sk fun _ k=>?_;(iterate 4 refine L.s f fun _ f=>?_);refine L.va f (E.indexArr f U26 Y5 rfl rfl (by omega) (by omega)) fun _ f=>?_;refine re f k ?_;exact ⟨rfl,rfl⟩
theorem x2l (b : Nat) (j g : Option Addr) (m : Nat) (l : ByteArray) (w : World) (d : Blk w b 29 (Ic j g 0 m)) : Calls Tryz.prog 25 #[.pointer (some ⟨b,0,none⟩),.string l] w (fun e w'=>w = w' ∧ e = .returned (.pointer none)):=by
 refine Bw Tryz.func25 Tryz.ntmps25 fun _ f=>?_;refine pr f fun _ f=>?_;refine wp_seq_k fun _ k=>?_;refine pr f fun _ f=>?_;refine wp_block ?_;refine C.loop (fun r a W=>w = W ∧ Blk W b 29 (Ic j g 0 m) ∧ Fr 34 a [(0,.pointer (some ⟨b,0,none⟩)),(1,.string l),(5,.int .i64 0)]) (0) ?_ ?_
 ·exact ⟨rfl,d,f.sub (sx (sx (sx sn)))⟩
 intro o _ t p n h;obtain ⟨rfl,d,c⟩:=p
 try clear f
 refine wp_seq_k fun _ _=>C.sk fun _ q=>?_;refine L.s c fun _ f=>?_;(iterate 6 refine L.s f fun _ f=>?_);have f:=f.as (i:=12) (v':=.bool false) rfl (by rfl);refine wn q ?_;refine C.cF f rfl ?_;refine wp_exit (k _ _ ?_);have f:=f.sub sn;refine rt f ?_;exact ⟨rfl,rfl⟩
theorem Gy (b r j : Nat) (m : Option Addr) (t : Nat) (at_ : Int) (n : Bool) (s : Rs) (B : Nat) (w : World) (K : Bk B w b r j m t at_ n s) : Calls Tryz.prog 25 #[.pointer (some ⟨b,0,none⟩),.string kk] w (fun e w'=>w = w' ∧ e = .returned (.pointer (some ⟨j,0,none⟩))):=by
 have u:=K.bb;have v:=K.se.top;have g:=K.cl;obtain ⟨x,z,c⟩:=(Sl.oO K.ro).addr (by omega);refine Bw Tryz.func25 Tryz.ntmps25 fun _ f=>?_;refine pr f fun _ f=>?_;refine wp_seq_k fun _ _=>?_;refine pr f fun _ f=>?_;refine wp_block ?_;refine C.loop (fun y a W=>w = W ∧ Fr 34 a [(0,.pointer (some ⟨b,0,none⟩)),(1,.string kk),(5,.int .i64 0)]) (0) ?_ ?_
 ·exact ⟨rfl,f.sub (sx (sx (sx sn)))⟩
 intro o _ w1 p l h;obtain ⟨rfl,d⟩:=p
 try clear f
 refine wp_seq_k fun _ k=>C.sk fun _ q=>?_;refine L.s d fun _ f=>?_;(iterate 6 refine L.s f fun _ f=>?_);have f:=f.as (i:=12) (v':=.bool true) rfl (by rfl);refine wn q ?_;refine C.cT f rfl ?_;refine wp_skip (k _ _ ?_);refine wp_seq_k fun _ _=>?_;refine wp_block ?_;refine C.sk fun _ k=>?_;(iterate 6 refine L.s f fun _ f=>?_);refine L.lo f (Y6 K.ro c) fun _ f=>?_;(iterate 5 refine L.s f fun _ f=>?_);have f:=f.as (i:=26) (v':=.bool true) rfl (by rw [g]; simp);refine wn k ?_;refine C.cT f rfl ?_;refine C.sk fun _ k=>?_;(iterate 6 refine L.s f fun _ f=>?_);refine L.lo f (Y6 K.ro c) fun _ f=>?_;refine re f k ?_;exact ⟨rfl,rfl⟩
end Go.Proofs.YtkdeedhjkjffpaaGreat
namespace Go.Proofs.YtkdeedhjkjffpaaGreat
open Go.RowKit Go.Hub Go.Lib
section
variable {P : Program} {a : Act} {w : World} {n : Nat} {l : FL} {ty : TypeId} {ps : String} {af : Array Edge} {gd : Option (Nat × Bool)} {x y : Operand} {t : TypeId}
theorem _root_.Go.Hub.E.eqlPo {dst : Option Nat} (f : Fr n a l) {e : TypeId} {p : Option Addr} {u : TypeId} (b : P.underlying t = some (.pointer e)) (c : Ae l x = some (.pointer p)) (g : Ae l y = some (.pointer none)) : (execOp a.eval ⟨dst,.binOp .eql t x y u,ty,ps,af,gd⟩).run P w = .ok (.value (.bool p.isNone)) w:=
  E.eqlV f c g fun w=>by
    have : ∀ d,(Op.equalIn (d + 1) t (.pointer p) (.pointer none)).run P w = .ok p.isNone w:=fun d=>by cases p <;> simp [Op.equalIn,run_underlying b]
    rw [Sem.run_bind]
    simp only [eqGuard,binOp]
    simp [Op.equal,Op.maxDepth,this 9999]
theorem _root_.Go.Hub.E.neqP {dst : Option Nat} (f : Fr n a l) {e : TypeId} {p : Option Addr} {u : TypeId} (b : P.underlying t = some (.pointer e)) (c : Ae l x = some (.pointer p)) (g : Ae l y = some (.pointer none)) : (execOp a.eval ⟨dst,.binOp .neq t x y u,ty,ps,af,gd⟩).run P w = .ok (.value (.bool p.isSome)) w:=
  E.neqV f c g fun w=>by
    have : ∀ d,(Op.equalIn (d + 1) t (.pointer p) (.pointer none)).run P w = .ok p.isNone w:=fun d=>by cases p <;> simp [Op.equalIn,run_underlying b]
    rw [Sem.run_bind]
    simp only [eqGuard,binOp]
    cases p <;> simp [Op.equal,Op.maxDepth,this 9999]
end
theorem P3 {i : Nat} {p : Option Addr} (h : (if i = 0 then p else none).isSome = true) : i = 0:=by
  by_cases a : i = 0
  · exact a
  rw [if_neg a] at h; cases h
theorem T5 {w : World} {b : Nat} {a c : Option Addr} {n d i : Nat} (h : Blk w b 29 (Ic a c n d)) (hi : i < 16) : w.cell? ⟨b,0 + (i : Int).toNat * 1,none⟩ = some (.pointer (if i = 0 then a else none)):=by
  rw [Int.toNat_natCast,Nat.mul_one,Nat.zero_add];refine h.cl ?_
  match i,hi with
  | 0,_=>rfl
  | 1,_=>rfl
  | 2,_=>rfl
  | 3,_=>rfl
  | 4,_=>rfl
  | 5,_=>rfl
  | 6,_=>rfl
  | 7,_=>rfl
  | 8,_=>rfl
  | 9,_=>rfl
  | 10,_=>rfl
  | 11,_=>rfl
  | 12,_=>rfl
  | 13,_=>rfl
  | 14,_=>rfl
  | 15,_=>rfl
  | i + 16,h=>omega
theorem y0l {w : World} {b : Nat} {a c : Option Addr} {n d i : Nat} (h : Blk w b 29 (Ic a c n d)) (hi : i = 0) : w.cell? ⟨b,0 + (i : Int).toNat * 1,none⟩ = some (.pointer a):=by
  subst hi;exact h.cl rfl
theorem Di {w : World} {c : Option Addr} {g b a d : Nat} (h : Own w 93 1 (.slice c 1 g) 1 [.pointer (some ⟨d,0,none⟩)]) (f : c = some ⟨b,a,none⟩) : w.cell? ⟨b,a + ((0 : Nat) : Int).toNat * 1,none⟩ = some (.pointer (some ⟨d,0,none⟩)):=
  (Sl.oO h).cell (j:=0) (by omega) f rfl
theorem y0m {l : FE} {f : ByteArray} (h : ∀ p ∈ l,p.1 ≠ f) : Ng l f = false:=by
  rw [Ng,List.any_eq_false];intro y a
  simpa using h y a
theorem y4i (b o q : Nat) (h : Option Addr) (p : Nat) (at_ : Int) (j : Bool) (s : Rs) (B : Nat) (w : World) (K : Bk B w b o q h p at_ j s) : Calls Tryz.prog 37 #[.pointer (some ⟨b,0,none⟩),.string kk] w (fun e w'=>w = w' ∧ e = .returned (.int .i64 0)):=by
 have r:=K.bb;have t:=K.lk;refine Bw Tryz.func37 Tryz.ntmps37 fun _ f=>?_;refine pr f fun _ f=>?_;refine wp_seq_k fun _ _=>?_;refine pr f fun _ f=>?_;refine wp_block ?_;refine C.loop (fun u a W=>w = W ∧ Fr 35 a [(0,.pointer (some ⟨b,0,none⟩)),(1,.string kk),(5,.int .i64 0)]) (0) ?_ ?_
 ·exact ⟨rfl,f.sub (sx (sx (sx sn)))⟩
 intro l _ v m g d;obtain ⟨rfl,c⟩:=m
 try clear f
 refine wp_seq_k fun _ k=>C.sk fun _ n=>?_;refine L.s c fun _ f=>?_;refine L.s f fun _ f=>?_;have f:=f.as (i:=7) (v':=.bool true) rfl (by rfl);refine wn n ?_;refine C.cT f rfl ?_;refine wp_skip (k _ _ ?_);refine wp_seq_k fun _ _=>?_;refine wp_block ?_;refine C.sk fun _ k=>?_;(iterate 4 refine L.s f fun _ f=>?_);refine L.va f (E.indexArr f U26 Y5 rfl rfl (by omega) (by omega)) fun _ f=>?_;refine L.s f fun _ f=>?_;refine L.va f (E.neqP f U25 rfl rfl) fun _ f=>?_;have f:=f.as (i:=16) (v':=.bool true) rfl (by rfl);(iterate 5 refine L.s f fun _ f=>?_);refine L.va f (E.indexArr f U26 Y5 rfl rfl (by omega) (by omega)) (hw:=f.y) fun _ f=>?_;(iterate 6 refine L.s f fun _ f=>?_);have f:=f.as (i:=28) (v':=.bool true) rfl (by simp);(iterate 4 refine L.s f fun _ f=>?_);have f:=f.as (i:=32) (v':=.bool true) rfl (by rfl);refine pe f k fun _ f=>?_;refine C.cT f rfl ?_;refine rt f ?_;exact ⟨rfl,rfl⟩
theorem y0n (b q : Nat) (t : Option Addr) (n sc : Nat) (at_ : Int) (u : Bool) (w : World) (o : Blk w b 29 (Ic (some ⟨q,0,none⟩) t n sc)) (BL : Blk w q 76 (Um ⟨#[]⟩ at_ u)) : Calls Tryz.prog 37 #[.pointer (some ⟨b,0,none⟩),.string kk] w (fun e w'=>w = w' ∧ e = .returned (.int .i64 (-1))):=by
 refine Bw Tryz.func37 Tryz.ntmps37 fun _ f=>?_;refine pr f fun _ f=>?_;refine wp_seq_k fun _ k=>?_;refine pr f fun _ f=>?_;refine wp_block ?_;refine C.loop (fun v a W=>∃ i : Nat,i + v = 16 ∧ w = W ∧ Fr 35 a [(0,.pointer (some ⟨b,0,none⟩)),(1,.string kk),(5,.int .i64 i)]) (16) ?_ ?_
 ·exact ⟨0,rfl,rfl,f.sub (sx (sx (sx sn)))⟩
 intro h _ w1 z r g;obtain ⟨i,hi,rfl,c⟩:=z
 try clear f
 refine wp_seq_k fun _ j=>?_;refine pr c fun _ f=>?_;refine C.sp f (fun x f=>?_) (fun x f=>?_)
 ·refine wp_skip (j _ _ ?_);have c:=f.pk [0,1,5,6,7];refine wp_seq_k fun _ j=>?_;refine wp_block ?_;refine C.sk fun _ p=>?_;(iterate 4 refine L.s c fun _ c=>?_);refine L.va c (E.indexArr c U26 Y5 rfl rfl (by omega) (by omega)) fun _ c=>?_;refine L.lo c (T5 o (i:=i) (by omega)) fun _ c=>?_;refine L.va c (E.neqP c U25 rfl rfl) fun _ c=>?_;refine L.s c fun _ c=>?_;refine c.split 17 rfl (fun l c=>?_) (fun l c=>?_)
  ·have m : i = 0:=by exact P3 l
   refine L.s c fun _ d=>?_;(iterate 3 refine L.s d fun _ d=>?_);refine L.va d (E.indexArr d U26 Y5 rfl rfl (by omega) (by omega)) (hw:=d.y) fun _ d=>?_;refine L.lo d (y0l o m) fun _ d=>?_;(iterate 5 refine L.s d fun _ d=>?_);have d:=d.as (i:=28) (v':=.bool false) rfl (by rfl);refine L.rn d fun _ d=>?_;refine wn p ?_;have d:=d.sub (sv 29 (.bool false) (sv 30 (.bool false) (sv 33 (.bool false) (Ft d [0,1,5,6,7,10,11,12,13,14,15,16,17,18,19,20,21,22,23,24,25,26,27,28]))));refine C.cF d rfl ?_;refine wp_skip (j _ _ ?_);refine C.region ?_;(iterate 3 refine L.s d fun _ d=>?_);refine wpList_nil (g _ _ (h - 1) ?_ ?_)
   ·omega
   exact ⟨i + 1,by omega,rfl,d.sub (sx (sx (sx sn)))⟩
  have hn:=l;refine L.skip c c.nT rfl (by decide) fun _ c=>?_;refine L.skip c c.nT rfl (by decide) fun _ c=>?_;refine L.skip c c.nT rfl (by decide) fun _ c=>?_;refine L.skip c c.nT rfl (by decide) fun _ c=>?_;refine L.skip c c.nT rfl (by decide) fun _ c=>?_;refine L.skip c c.nT rfl (by decide) fun _ c=>?_;refine L.skip c c.nT rfl (by decide) fun _ c=>?_;refine L.skip c c.nT rfl (by decide) fun _ c=>?_;refine L.skip c c.nT rfl (by decide) fun _ c=>?_;refine L.skip c c.nT rfl (by decide) fun _ c=>?_;refine L.skip c c.nT rfl (by decide) fun _ c=>?_;refine L.rn c fun _ c=>?_;refine wn p ?_;have c:=c.sub (sv 29 (.bool false) (sv 30 (.bool false) (sv 33 (.bool false) (Ft c [0,1,5,6,7,10,11,12,13,14,15,16,17,18,19,20,21,22,23,24,25,26,27,28]))));refine C.cF c rfl ?_;refine wp_skip (j _ _ ?_);refine C.region ?_;(iterate 3 refine L.s c fun _ c=>?_);refine wpList_nil (g _ _ (h - 1) ?_ ?_)
  ·omega
  exact ⟨i + 1,by omega,rfl,c.sub (sx (sx (sx sn)))⟩
 refine wp_exit (k _ _ ?_);have f:=f.sub sn;refine rt f ?_;exact ⟨rfl,rfl⟩
theorem x6s (b : Nat) (o j : Option Addr) (p : Nat) (g : ByteArray) (w : World) (q : Blk w b 29 (Ic o j 0 p)) : Calls Tryz.prog 33 #[.pointer (some ⟨b,0,none⟩),.string g] w (fun e w'=>w = w' ∧ e = .returned (.bool false)):=by
 refine Bw Tryz.func33 Tryz.ntmps33 fun _ f=>?_;refine pr f fun _ f=>?_;refine wp_seq_k fun _ k=>?_;refine pr f fun _ f=>?_;refine wp_block ?_;refine C.loop (fun r a W=>w = W ∧ Fr 47 a [(0,.pointer (some ⟨b,0,none⟩)),(1,.string g),(5,.int .i64 0)]) (0) ?_ ?_
 ·exact ⟨rfl,f.sub (sx (sx (sx sn)))⟩
 intro l _ t m h d;obtain ⟨rfl,c⟩:=m
 try clear f
 refine wp_seq_k fun _ _=>C.sk fun _ n=>?_;refine L.s c fun _ f=>?_;(iterate 6 refine L.s f fun _ f=>?_);have f:=f.as (i:=13) (v':=.bool false) rfl (by rfl);refine wn n ?_;refine C.cF f rfl ?_;refine wp_exit (k _ _ ?_);have f:=f.sub sn;refine rt f ?_;exact ⟨rfl,rfl⟩
theorem M8 (b lp sp : Nat) (SA : Option Addr) (sc : Nat) (at_ : Int) (cn : Bool) (s : Rs) (B : Nat) (w : World) (K : Bk B w b lp sp SA sc at_ cn s) (j : ByteArray) (ad : s.ls.length ≤ 1000000) : Calls Tryz.prog 33 #[.pointer (some ⟨b,0,none⟩),.string j] w (fun e w'=>w = w' ∧ e = .returned (.bool (Ng s.ls j))):=by
 have BB:=K.bb;have BS:=K.se.top;obtain ⟨b1,o1,n⟩:=(Sl.oO K.ro).addr (by omega);refine Bw Tryz.func33 Tryz.ntmps33 fun _ f=>?_;refine pr f fun _ f=>?_;refine wp_seq_k fun _ k1=>?_;refine pr f fun _ f=>?_;refine wp_block ?_;refine C.loop (fun q a W=>∃ i : Nat,i + q = 1 ∧ (i = 1 → ∀ p ∈ s.ls,p.1 ≠ j) ∧ w = W ∧ Fr 47 a [(0,.pointer (some ⟨b,0,none⟩)),(1,.string j),(5,.int .i64 i)]) (1) ?_ ?_
 ·exact ⟨0,rfl,by omega,rfl,f.sub (sx (sx (sx sn)))⟩
 intro r _ w1 z a7 l;obtain ⟨i,hi,a2,rfl,c⟩:=z
 try clear f
 refine wp_seq_k fun _ k2=>?_;refine pr c fun _ f=>?_;refine f.sD 13 rfl (fun h0 f=>?_) (fun h0 f=>?_)
 ·have a0 : i = 0:=by omega
  subst a0;refine C.cT f rfl ?_;refine wp_skip (k2 _ _ ?_);have c:=f.pk [0,1,5,7,8,9,10,11,12,13];refine wp_seq_k fun _ k2=>?_;refine wp_block ?_;refine pr c fun _ c=>?_;refine wp_block ?_;refine C.loop (fun q a W=>∃ k : Nat,k + q = s.ls.length ∧ (∀ p ∈ s.ls.take k,p.1 ≠ j) ∧ w = W ∧ Fr 47 a [(0,.pointer (some ⟨b,0,none⟩)),(1,.string j),(5,.int .i64 (0 : Nat)),(6,.int .i64 k)]) (s.ls.length) ?_ ?_
  ·exact ⟨0,by omega,by simp,rfl,c.sub (sx (sx (sx (sx sn))))⟩
  intro t _ w2 z a8 m;obtain ⟨k,hk,g,rfl,d⟩:=z
  try clear c
  refine wp_seq_k fun _ k3=>C.sk fun _ k4=>?_;refine L.s d fun _ c=>?_;(iterate 6 refine L.s c fun _ c=>?_);refine L.lo c (Di K.ro n) fun _ c=>?_;refine pe c k4 fun _ c=>?_;refine c.sD 28 rfl (fun u c=>?_) (fun u c=>?_)
  ·have y:=u;obtain ⟨x,hx⟩ : ∃ x,s.ls[k]? = some x:=⟨s.ls[k]'(by omega),List.getElem?_eq_getElem _⟩;obtain ⟨b,ag,hA⟩:=(Sl.oO K.se.ls.own).addr (by omega);refine C.cT c rfl ?_;refine wp_skip (k3 _ _ ?_);have d:=c.pk [0,1,5,6,16,17,18,19,20,21,22,23,24,25,26,27,28];refine wp_seq_k fun _ k3=>?_;refine wp_block ?_;refine C.sk fun _ k4=>?_;(iterate 6 refine L.s d fun _ d=>?_);refine L.lo d (Di K.ro n) fun _ d=>?_;(iterate 6 refine L.s d fun _ d=>?_);refine L.lo d (H9 (Sl.oO K.se.ls.own) hA hx 0 rfl) fun _ d=>?_;refine pe d k4 fun _ d=>?_;refine C.sp d (fun v d=>?_) (fun v d=>?_)
   ·have h:=v;refine rt d ?_;exact ⟨rfl,by rw [Xh hx h]⟩
   have h:=v;refine wp_skip (k3 _ _ ?_);refine C.region ?_;(iterate 3 refine L.s d fun _ d=>?_);refine wpList_nil (m _ _ (t - 1) ?_ ?_)
   ·omega
   exact ⟨k + 1,by omega,Pz g hx h,rfl,d.sub (sx (sx (sx (sx sn))))⟩
  have y:=u;have o : ∀ p ∈ s.ls,p.1 ≠ j:=by rw [List.take_of_length_le (by omega)] at g; exact g
  refine C.cF c rfl ?_;refine wp_exit (k2 _ _ ?_);refine C.region ?_;(iterate 3 refine L.s c fun _ c=>?_);refine wpList_nil (l _ _ (r - 1) ?_ ?_)
  ·omega
  exact ⟨1,by omega,fun _=>o,rfl,c.sub (sx (sx (sx sn)))⟩
 have a1 : i = 1:=by omega
 refine C.cF f rfl ?_;refine wp_exit (k1 _ _ ?_);have f:=f.sub sn;refine rt f ?_;exact ⟨rfl,by rw [y0m (a2 a1)]⟩
end Go.Proofs.YtkdeedhjkjffpaaGreat
namespace Go.Proofs.YtkdeedhjkjffpaaGreat
open Go.RowKit Go.Hub Go.Lib
theorem _root_.Go.Hub.Sl.hd {w : World} {A : Option Addr} {n size : Nat} {xs : List Value} (h : Sl w A n size xs) {k : Nat} (g : k ≤ n) : Sl w A k size (xs.take (k * size)):=
  ⟨by rw [List.length_take,h.1]; exact Nat.min_eq_left (Nat.mul_le_mul_right _ g),fun i=>by
    obtain ⟨b,c,e,d,f⟩:=h.2 (by omega)
    refine ⟨b,c,e,d,fun j u a=>f j u ?_⟩
    rw [List.getElem?_take] at a
    split at a
    · exact a
    cases a⟩
theorem Dl (l : List ByteArray) : ∀ u ∈ l.map Value.string,u.oneCell' = true:=fun u a=>by
  obtain ⟨x,_,rfl⟩:=List.mem_map.1 a
  rfl
theorem Vr {w : World} {A : Option Addr} {l : List ByteArray} {b a k : Nat} {x : ByteArray} (h : Sl w A l.length 1 (l.map .string)) (d : A = some ⟨b,a,none⟩) (c : l[k]? = some x) : w.cell? ⟨b,a + (k : Int).toNat * 1,none⟩ = some (.string x):=by
  rw [Int.toNat_natCast,Nat.mul_one];have f:=(List.getElem?_eq_some_iff.1 c).1;exact h.cell (by omega) d (by rw [List.getElem?_map,c]; rfl)
theorem Mv {w : World} {g t : Nat} (x : ByteArray) (b : Blk w g t #[.string x]) : Sl w (some ⟨g,0,none⟩) 1 1 ([x].map .string):=
  ⟨rfl,fun _=>⟨g,0,rfl,b.lt,fun j u a=>by rw [Nat.zero_add]; exact b.cl a⟩⟩
def Qa (l : List ByteArray) (w : World) (e : Ending) (w' : World) : Prop:=∃ A c l',e = .returned (.slice A (l' : List ByteArray).length c) ∧ Kept [] w w' ∧ Ss w' A l' ∧ l'.length ≤ c ∧ l'.length ≤ l.length + 1
theorem x6t {l : List ByteArray} {A : Option Addr} {c : Nat} {w W : World} (b : Sl w A l.length 1 (l.map .string)) (a : Kept [] w W) (d : l.length ≤ c) : Qa l w (.returned (.slice A l.length c)) W:=⟨A,c,l,rfl,a,b.kept a,d,Nat.le_succ _⟩
theorem Kq {l : List ByteArray} {A : Option Addr} {c k k2 n : Nat} {a : ByteArray} {w W : World} (g : Kept [] w W) (d : Fresh w W 9 1 A n c ([] ++ (l.map Value.string).take (k * 1) ++ [a].map Value.string ++ (l.map Value.string).drop (k2 * 1))) (h : k2 = k) (f : k ≤ l.length ∧ n = l.length + 1) : Qa l w (.returned (.slice A n c)) W:=by
  subst h;obtain ⟨f,rfl⟩:=f;have e : [] ++ (l.map Value.string).take (k2 * 1) ++ [a].map Value.string ++ (l.map Value.string).drop (k2 * 1) = (l.take k2 ++ [a] ++ l.drop k2).map Value.string:=by simp [List.map_take,List.map_drop]
  rw [e] at d;have b : (l.take k2 ++ [a] ++ l.drop k2).length = l.length + 1:=by simp; omega
  exact ⟨A,c,l.take k2 ++ [a] ++ l.drop k2,by rw [b],g,by unfold Ss; rw [b]; exact Sl.oO d.own,by rw [b]; exact Gw d.own,by rw [b]; exact Nat.le_refl _⟩
theorem x6u (l : List ByteArray) (A : Option Addr) (c : Nat) (nm : ByteArray) (w : World) (SL : Ss w A l) (a1 : l.length ≤ c) (hl : l.length ≤ 1000000) : Calls Tryz.prog 40 #[.slice A l.length c,.string nm] w (Qa l w):=by
 have o : Kept [] w w:=Kept.refl [] w;replace SL : Sl w A l.length 1 (l.map .string):=SL;refine Bw Tryz.func40 Tryz.ntmps40 fun _ f=>?_;refine pr f fun _ f=>?_;refine pr f fun _ f=>?_;refine wp_seq_k fun _ k1=>?_;refine wp_block ?_;refine C.loop (fun gk a W=>∃ k : Nat,k + gk = l.length ∧ Kept [] w W ∧ Fr 44 a [(0,.slice A l.length c),(1,.string nm),(5,.int .i64 k)]) (l.length) ?_ ?_
 ·exact ⟨0,by omega,o,f.sub (sx (sx (sx sn)))⟩
 intro ba _ w1 hI bq az;obtain ⟨k,hk,o,h⟩:=hI
 try clear f
 refine wp_seq_k fun _ k2=>C.sk fun _ k3=>?_;refine L.s h fun _ f=>?_;(iterate 4 refine L.s f fun _ f=>?_);refine f.sD 10 rfl (fun h0 f=>?_) (fun h0 f=>?_)
 ·have bd:=h0;obtain ⟨x,hx⟩:=Bn l k (by omega);obtain ⟨b,bw,hA⟩:=SL.addr (by omega);refine L.s f fun _ h=>?_;(iterate 2 refine L.s h fun _ h=>?_);refine L.lo h (Vr (SL.kept o) hA hx) fun _ h=>?_;refine L.s h fun _ h=>?_;refine L.va h (E.lssS h rfl rfl) (hw:=h.y) fun _ h=>?_;refine pe h k3 fun _ h=>?_;refine C.sb h (fun h1 h=>?_) (fun h1 h=>?_)
  ·have bf:=h1;refine wp_skip (k2 _ _ ?_);have g:=h.pk [0,1,5,6,7,8,9,10,11,12,13,14,15,16,17];refine wp_block ?_;refine C.region ?_;(iterate 3 refine L.s g fun _ g=>?_);refine wpList_nil (az _ _ (ba - 1) ?_ ?_)
   ·omega
   exact ⟨k + 1,by omega,o,g.sub (sx (sx (sx sn)))⟩
  have bf:=h1;refine wp_exit (k1 _ _ ?_);refine wp_seq_k fun _ k2=>C.sk fun _ k4=>?_;(iterate 5 refine L.s h fun _ h=>?_);refine h.sD 24 rfl (fun h2 g=>?_) (fun h2 g=>?_)
  ·have bg:=h2;(iterate 3 refine L.s g fun _ g=>?_);refine L.lo g (Vr (SL.kept o) hA hx) fun _ g=>?_;refine pe g k4 fun _ g=>?_;refine C.sp g (fun h3 g=>?_) (fun h3 g=>?_)
   ·have bi:=h3;refine rt g ?_;exact x6t SL o a1
   have bi:=h3;refine wp_skip (k2 _ _ ?_);refine wp_seq_k fun _ k2=>?_;have a0:=SL.kept o;have aa:=o.size;refine R.begin (S:=fun W=>Kept [] w1 W) (by kernel_rfl) (by exact (Kept.refl _ _).drewN 1) ?_;have s:=dk w1 1;have ar:=dk w1 1;obtain ⟨w2,a2⟩ : ∃ W,W = w1.drewN 1:=⟨_,rfl⟩;rw [← a2] at s ar ⊢;clear a2;have b4:=s.size;refine rq [0,1] g fun _ g=>?_;refine R.p 2 g rfl s (E.slLhi g U46 Z2 rfl rfl (by omega) (by omega) ) fun _ g=>?_;refine rq [4,7,8] g fun _ g=>?_;refine R.p 9 g rfl s (E.slLlo g U46 Z2 rfl rfl (by omega) (by omega) ) fun _ g=>?_;refine R.two 3 5 (by kernel_rfl) ?_ ?_
   ·skip;refine O.append g rfl Aa (by decide) U46 Zk rfl rfl rfl rfl (Own.nil _ _ _) (Sl.hd (a0.kept (s)) (k:=k) (by omega)) (fun u hu=>Dl l u (List.mem_of_mem_take hu)) (by unfold maxLen; omega) (by omega) fun _ w3 Ax cx a8=>?_;have n : Kept [] w2 w3:=by simpa [Value.ownBlock] using a8.kept
    have t : Fresh w1 w3 9 1 Ax (0 + k) cx ([] ++ (l.map Value.string).take (k * 1)):=a8.next (Fresh.nil w1 w2 9 1) s.size
    have d:=s.trans n (by simp);refine ⟨d,fun r=>?_⟩;have ab:=n.size;clear n;replace s:=d;clear d;refine R.on 5 ?_;refine O.buildSlice r rfl Aa (by decide) (pL r rfl) U46 Zl rfl rfl (Zm _) (fun _ hk=>s.trans hk (by simp)) fun _ w4 g3 N d r=>?_;obtain ⟨ao,q,b1,b3,ac⟩:=N.al;have ax:=s.size;replace t:=t.k0 q;clear N q;replace s:=d;clear d;refine R.on 6 ?_;refine O.append r rfl Aa (by decide) U46 Zk rfl rfl rfl rfl (t.own) ((Mv nm ao)) (fun v hv=>Dl [nm] v hv) (by unfold maxLen; omega) (by omega) fun _ w5 Ay cy i=>?_;have d:=i.grow t s;have FY:=i.next t s.size
    refine ⟨d,fun r=>?_⟩;have ad:=i.kept.size;replace s:=d;clear d;refine R.on 10 ?_;refine O.append r rfl Aa (by decide) U46 Zk rfl rfl rfl rfl (FY.own) (Sl.ct (a0.kept s) (k:=(k : Int).toNat) (by omega) a1) (fun u hu=>Dl l u (List.mem_of_mem_drop hu)) (by unfold maxLen; omega) (by omega) fun _ w6 Az cz j=>?_;have d:=j.grow FY s;have FZ:=j.next FY s.size
    refine ⟨d,fun r=>?_⟩;have ae:=j.kept.size;replace s:=d;clear d;refine rq [11] r fun _ r=>?_;have a7:=s.size;replace o:=o.z s;clear s;refine R.dn k2 ?_;refine Gc r ?_;exact Kq o (FZ.lw aa) (by omega) (by omega)
   skip;refine O.buildSlice g rfl Aa (by decide) (pL g rfl) U46 Zl rfl rfl (Zm _) (fun _ hk=>s.trans hk (by simp)) fun _ w3 g2 N d g=>?_;obtain ⟨a4,q,b0,b2,ab⟩:=N.al;have aw:=s.size;clear N q;replace s:=d;clear d;refine R.on 3 ?_;refine O.append g rfl Aa (by decide) U46 Zk rfl rfl rfl rfl (Own.nil _ _ _) (Sl.hd (a0.kept (s)) (k:=k) (by omega)) (fun u hu=>Dl l u (List.mem_of_mem_take hu)) (by unfold maxLen; omega) (by omega) fun _ w4 Ax cx a9=>?_;have m : Kept [] w3 w4:=by simpa [Value.ownBlock] using a9.kept
   have t : Fresh w1 w4 9 1 Ax (0 + k) cx ([] ++ (l.map Value.string).take (k * 1)):=a9.next (Fresh.nil w1 w3 9 1) s.size
   have d:=s.trans m (by simp);refine ⟨d,fun g=>?_⟩;have ac:=m.size;replace a4:=a4.z m;clear m;replace s:=d;clear d;refine R.on 6 ?_;refine O.append g rfl Aa (by decide) U46 Zk rfl rfl rfl rfl (t.own) ((Mv nm a4)) (fun v hv=>Dl [nm] v hv) (by unfold maxLen; omega) (by omega) fun _ w5 Ay cy i=>?_;have d:=i.grow t s;have FY:=i.next t s.size
   refine ⟨d,fun g=>?_⟩;have ad:=i.kept.size;replace s:=d;clear d;refine R.on 10 ?_;refine O.append g rfl Aa (by decide) U46 Zk rfl rfl rfl rfl (FY.own) (Sl.ct (a0.kept s) (k:=(k : Int).toNat) (by omega) a1) (fun u hu=>Dl l u (List.mem_of_mem_drop hu)) (by unfold maxLen; omega) (by omega) fun _ w6 Az cz j=>?_;have d:=j.grow FY s;have FZ:=j.next FY s.size
   refine ⟨d,fun g=>?_⟩;have ae:=j.kept.size;replace s:=d;clear d;refine rq [11] g fun _ g=>?_;have a7:=s.size;replace o:=o.z s;clear s;refine R.dn k2 ?_;refine Gc g ?_;exact Kq o (FZ.lw aa) (by omega) (by omega)
  clear h
  exfalso
  omega
 have bd:=h0;refine L.rn f fun _ f=>?_;refine wn k3 ?_;have f:=f.sub (sv 17 (.bool false) (Ft f [0,1,5,6,7,8,9,10]));refine C.cF f rfl ?_;refine wp_exit (k1 _ _ ?_);refine wp_seq_k fun _ k1=>C.sk fun _ k2=>?_;(iterate 5 refine L.s f fun _ f=>?_);refine f.sD 24 rfl (fun h4 h=>?_) (fun h4 h=>?_)
 ·clear f
  exfalso
  omega
 have bg:=h4;refine L.rn h fun _ f=>?_;refine wn k2 ?_;have f:=f.sub (sv 31 (.bool false) (Ft f [0,1,5]));refine C.cF f rfl ?_;refine wp_skip (k1 _ _ ?_);refine wp_seq_k fun _ k1=>?_;have a0:=SL.kept o;have aa:=o.size;refine R.begin (S:=fun W=>Kept [] w1 W) (by kernel_rfl) (by exact (Kept.refl _ _).drewN 1) ?_;have s:=dk w1 1;have ar:=dk w1 1;obtain ⟨w2,a2⟩ : ∃ W,W = w1.drewN 1:=⟨_,rfl⟩;rw [← a2] at s ar ⊢;clear a2;have b4:=s.size;refine rq [0,1] f fun _ f=>?_;refine R.p 2 f rfl s (E.slLhi f U46 Z2 rfl rfl (by omega) (by omega) ) fun _ f=>?_;refine rq [4,7,8] f fun _ f=>?_;refine R.p 9 f rfl s (E.slLlo f U46 Z2 rfl rfl (by omega) (by omega) ) fun _ f=>?_;refine R.two 3 5 (by kernel_rfl) ?_ ?_
 ·skip;refine O.append f rfl Aa (by decide) U46 Zk rfl rfl rfl rfl (Own.nil _ _ _) (Sl.hd (a0.kept (s)) (k:=k) (by omega)) (fun u hu=>Dl l u (List.mem_of_mem_take hu)) (by unfold maxLen; omega) (by omega) fun _ w3 Ax cx a8=>?_;have n : Kept [] w2 w3:=by simpa [Value.ownBlock] using a8.kept
  have t : Fresh w1 w3 9 1 Ax (0 + k) cx ([] ++ (l.map Value.string).take (k * 1)):=a8.next (Fresh.nil w1 w2 9 1) s.size
  have d:=s.trans n (by simp);refine ⟨d,fun h=>?_⟩;have ab:=n.size;clear n;replace s:=d;clear d;refine R.on 5 ?_;refine O.buildSlice h rfl Aa (by decide) (pL h rfl) U46 Zl rfl rfl (Zm _) (fun _ hk=>s.trans hk (by simp)) fun _ w4 g3 N d h=>?_;obtain ⟨ao,q,b1,b3,ac⟩:=N.al;have ax:=s.size;replace t:=t.k0 q;clear N q;replace s:=d;clear d;refine R.on 6 ?_;refine O.append h rfl Aa (by decide) U46 Zk rfl rfl rfl rfl (t.own) ((Mv nm ao)) (fun v hv=>Dl [nm] v hv) (by unfold maxLen; omega) (by omega) fun _ w5 Ay cy i=>?_;have d:=i.grow t s;have FY:=i.next t s.size
  refine ⟨d,fun h=>?_⟩;have ad:=i.kept.size;replace s:=d;clear d;refine R.on 10 ?_;refine O.append h rfl Aa (by decide) U46 Zk rfl rfl rfl rfl (FY.own) (Sl.ct (a0.kept s) (k:=(k : Int).toNat) (by omega) a1) (fun u hu=>Dl l u (List.mem_of_mem_drop hu)) (by unfold maxLen; omega) (by omega) fun _ w6 Az cz j=>?_;have d:=j.grow FY s;have FZ:=j.next FY s.size
  refine ⟨d,fun h=>?_⟩;have ae:=j.kept.size;replace s:=d;clear d;refine rq [11] h fun _ h=>?_;have a7:=s.size;replace o:=o.z s;clear s;refine R.dn k1 ?_;refine Gc h ?_;exact Kq o (FZ.lw aa) (by omega) (by omega)
 skip;refine O.buildSlice f rfl Aa (by decide) (pL f rfl) U46 Zl rfl rfl (Zm _) (fun _ hk=>s.trans hk (by simp)) fun _ w3 g2 N d f=>?_;obtain ⟨a4,q,b0,b2,ab⟩:=N.al;have aw:=s.size;clear N q;replace s:=d;clear d;refine R.on 3 ?_;refine O.append f rfl Aa (by decide) U46 Zk rfl rfl rfl rfl (Own.nil _ _ _) (Sl.hd (a0.kept (s)) (k:=k) (by omega)) (fun u hu=>Dl l u (List.mem_of_mem_take hu)) (by unfold maxLen; omega) (by omega) fun _ w4 Ax cx a9=>?_;have m : Kept [] w3 w4:=by simpa [Value.ownBlock] using a9.kept
 have t : Fresh w1 w4 9 1 Ax (0 + k) cx ([] ++ (l.map Value.string).take (k * 1)):=a9.next (Fresh.nil w1 w3 9 1) s.size
 have d:=s.trans m (by simp);refine ⟨d,fun f=>?_⟩;have ac:=m.size;replace a4:=a4.z m;clear m;replace s:=d;clear d;refine R.on 6 ?_;refine O.append f rfl Aa (by decide) U46 Zk rfl rfl rfl rfl (t.own) ((Mv nm a4)) (fun v hv=>Dl [nm] v hv) (by unfold maxLen; omega) (by omega) fun _ w5 Ay cy i=>?_;have d:=i.grow t s;have FY:=i.next t s.size
 refine ⟨d,fun f=>?_⟩;have ad:=i.kept.size;replace s:=d;clear d;refine R.on 10 ?_;refine O.append f rfl Aa (by decide) U46 Zk rfl rfl rfl rfl (FY.own) (Sl.ct (a0.kept s) (k:=(k : Int).toNat) (by omega) a1) (fun u hu=>Dl l u (List.mem_of_mem_drop hu)) (by unfold maxLen; omega) (by omega) fun _ w6 Az cz j=>?_;have d:=j.grow FY s;have FZ:=j.next FY s.size
 refine ⟨d,fun f=>?_⟩;have ae:=j.kept.size;replace s:=d;clear d;refine rq [11] f fun _ f=>?_;have a7:=s.size;replace o:=o.z s;clear s;refine R.dn k1 ?_;refine Gc f ?_;exact Kq o (FZ.lw aa) (by omega) (by omega)
end Go.Proofs.YtkdeedhjkjffpaaGreat
