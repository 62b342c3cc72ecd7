/- Merged by program (shrink.py): contracts and plain laws that the claim's statement uses, part 6. -/
import Derived.Test.YtkdeedhjkjffpaaGreatMa5
set_option linter.all false
set_option maxRecDepth 100000
set_option maxHeartbeats 8000000

namespace Go.Proofs.YtkdeedhjkjffpaaGreat
open Go.RowKit Go.Hub
theorem Tu {K V : Type} [DecidableEq K] {l : List (K × V)} {x : K} {v : V} (h : lk l x = some v) : (x,v) ∈ l:=by
  unfold lk at h
  cases hf : l.find? (fun p=>decide (p.1 = x)) with
  | none=>rw [hf] at h; cases h
  | some y=>
    rw [hf] at h;have c:=List.find?_some hf;have d:=List.mem_of_find?_eq_some hf;have a : y.1 = x:=by simpa using c
    have b : y.2 = v:=by simpa using h
    rw [← a,← b];exact d
def NoSub (t : Tr) : Prop:=∀ x ∈ t.out,x.2.1.subs = []
section
variable {t : Tr} {p : Pk}
theorem NoSub.strike (h : NoSub t) (i : Int) : ∀ x ∈ Go.Hub.strike t.out i,x.2.1.subs = []:=fun x a=>h x (List.mem_filter.1 a).1
theorem NoSub.put (h : NoSub t) (i : Int) {f : FlP} (b : f.1.subs = []) : ∀ x ∈ (i,f) :: Go.Hub.strike t.out i,x.2.1.subs = []:=fun x a=>by
  rcases List.mem_cons.1 a with rfl | a
  · exact b
  exact h.strike i x a
theorem NoSub.inT (h : NoSub t) : NoSub (t.inT p):=by
  unfold Tr.inT
  split
  · exact h
  split
  · exact h
  split
  · unfold Tr.msgT
    split <;> exact h
  split
  · unfold Tr.ackT
    split
    · exact h
    split
    · exact h
    rename_i f hf
    split
    · exact h.strike p.id
    split
    · exact h.put p.id (f:=(f.1,f.2.1,true,f.2.2.2)) (h _ (Tu hf))
    exact h
  split
  · exact h
  split
  · exact h
  split
  · exact h
  split <;> exact h
theorem NoSub.outT (h : NoSub t) (a : p.kind = 3 → p.subs = []) : NoSub (t.outT p).2:=by
  unfold Tr.outT
  split
  · unfold Tr.connT
    split <;> exact h
  split
  · exact h
  split
  · rename_i h3
    unfold Tr.pubT
    split
    · exact h
    split
    · exact h.put p.id (f:=(p,false,false,false)) (a h3)
    exact h
  split
  · unfold Tr.relT
    split
    · split
      · exact h.put p.id (f:=(({ kind:=3,qos:=2,id:=p.id } : Pk),true,true,true)) rfl
      exact h
    rename_i f hf
    split
    · exact h
    exact h.put p.id (f:=(f.1,f.2.1,f.2.2.1,true)) (h _ (Tu hf))
  split
  · unfold Tr.subT
    split
    · exact h
    split <;> exact h
  split
  · unfold Tr.unsT
    split
    · exact h
    split <;> exact h
  split
  · unfold Tr.payT
    split <;> exact h
  split
  · unfold Tr.payT
    split <;> exact h
  exact h
theorem Wm (h : RightP p) (a : p.kind = 3) : p.subs = []:=by
  have:=h.bare;rw [this];unfold Ak;rw [if_neg (by omega),if_neg (by omega),if_pos a]
end
structure Bd (N : Int) (a : SA) (l : FE) : Prop where
  lost : 0 ≤ a.lost ∧ a.lost ≤ N
  got : (a.got.length : Int) ≤ N
  ls : (l.length : Int) ≤ 3 * N
section
variable {a : SA} {N : Int} {l : FE} {now : Int}
theorem J1 : ∀ (k : Nat) (a : SA), (drainN k a now).1.lost = a.lost ∧ (drainN k a now).1.got = a.got
  | 0,a=>⟨rfl,rfl⟩
  | k + 1,a=>by
    unfold drainN
    split
    · split
      · exact ⟨rfl,rfl⟩
      exact J1 k _
    exact ⟨rfl,rfl⟩
theorem Bd.same {b : SA} (h : Bd N a l) (c : b.lost = a.lost) (d : b.got = a.got) : Bd N b l:=⟨by rw [c]; exact h.lost,by rw [d]; exact h.got,h.ls⟩
theorem Bd.up {M : Int} (h : Bd N a l) (b : N ≤ M) : Bd M a l:=⟨⟨h.lost.1,by have:=h.lost; omega⟩,by have:=h.got; omega,by have:=h.ls; omega⟩
theorem Bd.send {m : Ms} {c : Bool} (h : Bd N a l) : Bd (N + 1) (sendS a m c now).1 l:=by
  have b:=h.up (M:=N + 1) (by omega);unfold sendS
  split
  · exact b
  split
  · exact b
  split
  · exact b.same rfl rfl
  unfold Pj
  split
  · exact b.same rfl rfl
  exact ⟨⟨by have:=h.lost; show 0 ≤ a.lost + 1; omega,by have:=h.lost; show a.lost + 1 ≤ _; omega⟩,b.got,b.ls⟩
theorem Bd.again {ago : Int} (h : Bd N a l) : Bd N (againS a now ago).1 l:=h.same rfl rfl
theorem Bd.ack {k id : Int} (h : Bd N a l) : Bd N (ackS a k id now).1 l:=by
  unfold ackS;simp only
  split
  · exact h
  split
  · exact h
  split
  · unfold Hg drainS
    have:=J1 (now:=now) 5
    rename_i f _ _ _
    obtain ⟨b,c⟩:=J1 (now:=now) 5 { a with used:=a.used.erase f.id,fly:=a.fly.eraseIdx (Gu (a.fly.map (·.id)) id 0).toNat };exact h.same b c
  split
  · exact h.same rfl rfl
  exact h
theorem x8j (x : Int) (l : List Int) : (G1 x l).length ≤ l.length + 1:=by
  unfold G1
  split <;> simp
theorem Bd.got_ {k q id : Int} (h : Bd N a l) : Bd (N + 1) (gotS a k q id).1 l:=by
  have b:=h.up (M:=N + 1) (by omega);unfold gotS
  split
  · refine ⟨b.lost, ?_, b.ls⟩
    have c : (a.got.erase id).length ≤ a.got.length:=List.length_erase_le;have d:=h.got;show ((a.got.erase id).length : Int) ≤ N + 1;omega
  repeat' split
  all_goals first | exact b | skip
  refine ⟨b.lost,?_,b.ls⟩;have c:=x8j id a.got;have d:=h.got;show ((G1 id a.got).length : Int) ≤ N + 1;omega
end
structure K2 (p : Pk) : Prop where
  kk : p.kind = 1 ∨ p.kind = 3 ∨ p.kind = 4 ∨ p.kind = 5 ∨ p.kind = 6 ∨ p.kind = 7 ∨ p.kind = 8 ∨ p.kind = 10 ∨ p.kind = 12 ∨ p.kind = 14
  nm : p.kind = 3 → He p.topic = true ∧ K3 p.topic = true
  ts : p.topic.size ≤ 100
  q : 0 ≤ p.qos ∧ p.qos ≤ 2
  id : 0 ≤ p.id ∧ p.id ≤ 65535
  id1 : p.kind ≠ 1 → p.kind ≠ 3 → p.kind ≠ 12 → p.kind ≠ 14 → 1 ≤ p.id
  id3 : p.kind = 3 → 0 < p.qos → 1 ≤ p.id
  py : p.pay.length ≤ 20
  n0 : p.kind = 8 → 0 < p.subs.length
  n1 : p.subs.length ≤ 3
  P : ∀ x ∈ p.subs,0 ≤ x.2 ∧ x.2 ≤ 2 ∧ x.1.size ≤ 100000
  len : p.Len
theorem y5p : (p7.all fun x=>He x && K3 x && decide (x.size ≤ 100)) = true:=by kernel_rfl
theorem y1m : (p10.all fun x=>decide (x.size ≤ 100)) = true:=by kernel_rfl
theorem x3d (a : Int) : Fd a ∈ p7:=by
  exact List.mem_of_getElem? (Jb p7 _ (by show (a % 7).toNat < 7; omega))
theorem Ya (a : Int) : filterS a ∈ p10:=by
  exact List.mem_of_getElem? (Jb p10 _ (by show (a % 10).toNat < 10; omega))
theorem Wn (a : Int) : He (Fd a) = true ∧ K3 (Fd a) = true ∧ (Fd a).size ≤ 100:=by
  have:=List.all_eq_true.1 y5p _ (x3d a);simp at this;exact ⟨this.1.1,this.1.2,this.2⟩
theorem Hk (a : Int) : (filterS a).size ≤ 100:=by
  have:=List.all_eq_true.1 y1m _ (Ya a)
  simpa using this
theorem Qq {p : Pk} (j : p.pay.length ≤ 1000) (b : p.wp = []) (c : p.pass = []) (k : p.subs.length ≤ 1000) (d : p.codes = []) (l : p.topic.size ≤ 1000) (f : p.client = ⟨#[]⟩) (g : p.wt = ⟨#[]⟩) (h : p.user = ⟨#[]⟩) (a : ∀ x ∈ p.subs,x.1.size ≤ 1000) : p.Len:=
  ⟨by omega,by rw [b]; exact Nat.zero_le _,by rw [c]; exact Nat.zero_le _,by omega,by rw [d]; exact Nat.zero_le _,by omega,by rw [f]; exact Nat.zero_le _,by rw [g]; exact Nat.zero_le _,by rw [h]; exact Nat.zero_le _,fun x i=>by have:=a x i; omega⟩
theorem F0 {k i : Int} (f : k = 4 ∨ k = 5 ∨ k = 6 ∨ k = 7 ∨ k = 12 ∨ k = 14) (hi : 0 ≤ i ∧ i ≤ 65535) (d : k ≠ 12 → k ≠ 14 → 1 ≤ i) : K2 { kind:=k,id:=i } where
  kk:=by show k = 1 ∨ k = 3 ∨ k = 4 ∨ k = 5 ∨ k = 6 ∨ k = 7 ∨ k = 8 ∨ k = 10 ∨ k = 12 ∨ k = 14; omega
  nm:=fun h=>by have : k = 3:=h; omega
  ts:=by show (0 : Nat) ≤ _; omega
  q:=⟨Int.le_refl _,by show (0 : Int) ≤ 2; decide⟩
  id:=hi
  id1:=fun _ _ a b=>d a b
  id3:=fun h=>by have : k = 3:=h; omega
  py:=by show (0 : Nat) ≤ _; omega
  n0:=fun h=>by have : k = 8:=h; omega
  n1:=by show (0 : Nat) ≤ _; omega
  P:=fun x c=>by cases c
  len:=Qq (by show (0 : Nat) ≤ _; omega) rfl rfl (by show (0 : Nat) ≤ _; omega) rfl (by show (0 : Nat) ≤ _; omega) rfl rfl rfl (fun x c=>by cases c)
theorem S9 {k i : Int} {l : FE} (f : k = 8 ∨ k = 10) (hi : 1 ≤ i ∧ i ≤ 65535) (c : 0 < l.length) (d : l.length ≤ 3) (b : ∀ x ∈ l,0 ≤ x.2 ∧ x.2 ≤ 2 ∧ x.1.size ≤ 100) : K2 { kind:=k,id:=i,subs:=l } where
  kk:=by show k = 1 ∨ k = 3 ∨ k = 4 ∨ k = 5 ∨ k = 6 ∨ k = 7 ∨ k = 8 ∨ k = 10 ∨ k = 12 ∨ k = 14; omega
  nm:=fun h=>by have : k = 3:=h; omega
  ts:=by show (0 : Nat) ≤ _; omega
  q:=⟨Int.le_refl _,by show (0 : Int) ≤ 2; decide⟩
  id:=⟨by show 0 ≤ i; omega,hi.2⟩
  id1:=fun _ _ _ _=>hi.1
  id3:=fun h=>by have : k = 3:=h; omega
  py:=by show (0 : Nat) ≤ _; omega
  n0:=fun _=>c
  n1:=d
  P:=fun x a=>⟨(b x a).1,(b x a).2.1,by have:=(b x a).2.2; omega⟩
  len:=Qq (by show (0 : Nat) ≤ _; omega) rfl rfl (by show l.length ≤ _; omega) rfl (by show (0 : Nat) ≤ _; omega) rfl rfl rfl (fun x a=>by have:=(b x a).2.2; omega)
section
variable {k a b c : Int} {x : List UInt8}
theorem x8k {q i : Int} {r d : Bool} (f : x.length ≤ 20) (n : 0 ≤ q ∧ q ≤ 2) (hi : 0 ≤ i ∧ i ≤ 65535) (g : 0 < q → 1 ≤ i) : K2 { kind:=3,topic:=Fd a,pay:=x,qos:=q,retain:=r,id:=i,dup:=d }:=by
  obtain ⟨j,l,m⟩:=Wn a;exact ⟨.inr (.inl rfl),fun _=>⟨j,l⟩,m,n,hi,fun _ h=>absurd rfl h,fun _ h=>g h,f,(fun h=>absurd (show (3 : Int) = 8 from h) (by decide)),(by show (0 : Nat) ≤ 3; omega),(fun x f=>by cases f),Qq (by show x.length ≤ 1000; omega) rfl rfl (by show (0 : Nat) ≤ 1000; omega) rfl (by show (Fd a).size ≤ 1000; omega) rfl rfl rfl (fun x f=>by cases f)⟩
theorem x8l (l : FE) (f : 0 ≤ c) (h : ∀ x ∈ l,0 ≤ x.2 ∧ x.2 ≤ 2 ∧ x.1.size ≤ 100) : ∀ x ∈ sub2 c l,0 ≤ x.2 ∧ x.2 ≤ 2 ∧ x.1.size ≤ 100:=by
  unfold sub2
  split
  · intro x d
    rcases List.mem_append.1 d with d | d
    · exact h x d
    obtain rfl:=List.mem_singleton.1 d;exact ⟨by show 0 ≤ c % 2; omega,by show c % 2 ≤ 2; omega,Hk c⟩
  exact h
theorem x8m (l : FE) (h : ∀ x ∈ l,0 ≤ x.2 ∧ x.2 ≤ 2 ∧ x.1.size ≤ 100) : ∀ x ∈ sub3 c l,0 ≤ x.2 ∧ x.2 ≤ 2 ∧ x.1.size ≤ 100:=by
  unfold sub3
  split
  · intro x d
    rcases List.mem_append.1 d with d | d
    · exact h x d
    obtain rfl:=List.mem_singleton.1 d;exact ⟨by decide,by decide,by decide⟩
  exact h
theorem y1n (l : FE) : l.length ≤ (sub2 c l).length ∧ (sub2 c l).length ≤ l.length + 1:=by
  unfold sub2
  split <;> simp
theorem y1o (l : FE) : l.length ≤ (sub3 c l).length ∧ (sub3 c l).length ≤ l.length + 1:=by
  unfold sub3
  split <;> simp
theorem y1p (l : x.length ≤ 20) : (Dc a b c x).Len ∧ (Dc a b c x).kind = 1 ∧ (Dc a b c x).topic = ⟨#[]⟩ ∧ (Dc a b c x).qos = 0 ∧ (Dc a b c x).id = 0 ∧ (Dc a b c x).pay = [] ∧ (Dc a b c x).subs = []:=by
  have q:=Wn c
  have p : (Ug a).size ≤ 100:=by
    have : (p5.all fun x=>decide (x.size ≤ 100)) = true:=by kernel_rfl
    have o : Ug a ∈ p5:=List.mem_of_getElem? (Jb p5 _ (by show (a % 5).toNat < 5; omega))
    simpa using List.all_eq_true.1 this _ o
  have m : (Fq a b c).Len ∧ (Fq a b c).kind = 1 ∧ (Fq a b c).topic = ⟨#[]⟩ ∧ (Fq a b c).qos = 0 ∧ (Fq a b c).id = 0 ∧ (Fq a b c).pay = [] ∧ (Fq a b c).subs = [] ∧ (Fq a b c).wp = [] ∧ (Fq a b c).pass = [] ∧ (Fq a b c).user = ⟨#[]⟩ ∧ (Fq a b c).wt = ⟨#[]⟩:=by
    unfold Fq
    split <;> exact ⟨⟨Nat.zero_le _,Nat.zero_le _,Nat.zero_le _,Nat.zero_le _,Nat.zero_le _,Nat.zero_le _,by show (Ug a).size ≤ _; omega,Nat.zero_le _,Nat.zero_le _,fun x l=>by cases l⟩,rfl,rfl,rfl,rfl,rfl,rfl,rfl,rfl,rfl,rfl⟩
  obtain ⟨L,d,f,g,h,i,j,_⟩:=m
  have n : (K0 a b c x (Fq a b c)).Len ∧ (K0 a b c x (Fq a b c)).kind = 1 ∧ (K0 a b c x (Fq a b c)).topic = ⟨#[]⟩ ∧ (K0 a b c x (Fq a b c)).qos = 0 ∧ (K0 a b c x (Fq a b c)).id = 0 ∧ (K0 a b c x (Fq a b c)).pay = [] ∧ (K0 a b c x (Fq a b c)).subs = []:=by
    unfold K0
    split
    · exact ⟨⟨L.pay,by show x.length ≤ _; omega,L.pass,L.subs,L.codes,L.topic,L.client,by show (Fd c).size ≤ _; omega,L.user,L.each⟩,d,f,g,h,i,j⟩
    exact ⟨L,d,f,g,h,i,j⟩
  obtain ⟨L,d,f,g,h,i,j⟩:=n;unfold Dc X8 X7
  split <;> split
  all_goals first | exact ⟨⟨L.pay,L.wp,by show x.length ≤ _; omega,L.subs,L.codes,L.topic,L.client,L.wt,by show (1 : Nat) ≤ _; omega,L.each⟩,d,f,g,h,i,j⟩ | exact ⟨⟨L.pay,L.wp,L.pass,L.subs,L.codes,L.topic,L.client,L.wt,L.user,L.each⟩,d,f,g,h,i,j⟩
theorem y1q (f : x.length ≤ 20) (t : 0 ≤ b) (r : 0 ≤ c) : K2 (Db k a b c x):=by
  unfold Db
  split
  · unfold Uh
    split
    · exact x8k f ⟨by omega,by omega⟩ ⟨by omega,by omega⟩ (fun _=>by omega)
    exact x8k (i:=0) (d:=false) f ⟨by omega,by omega⟩ ⟨by omega,by omega⟩ (fun h=>by omega)
  split
  · have p : ∀ x ∈ ([(filterS a,b % 3)] : FE),0 ≤ x.2 ∧ x.2 ≤ 2 ∧ x.1.size ≤ 100:=fun x f=>by
      obtain rfl:=List.mem_singleton.1 f;exact ⟨by show 0 ≤ b % 3; omega,by show b % 3 ≤ 2; omega,Hk a⟩
    have q:=y1n (c:=c) [(filterS a,b % 3)];have s:=y1o (c:=c) (sub2 c [(filterS a,b % 3)]);simp at q;exact S9 (.inl rfl) ⟨by omega,by omega⟩ (by omega) (by omega) (x8m _ (x8l _ r p))
  split
  · refine S9 (.inr rfl) ⟨by omega, by omega⟩ ?_ ?_ fun x f => ?_
    · unfold Q3; split <;> simp
    · unfold Q3; split <;> simp
    unfold Q3 at f
    split at f
    · obtain rfl := List.mem_singleton.1 f
      exact ⟨Int.le_refl _,by show (0 : Int) ≤ 2; decide,Hk a⟩
    rcases List.mem_cons.1 f with rfl | f
    · exact ⟨Int.le_refl _,by show (0 : Int) ≤ 2; decide,Hk a⟩
    obtain rfl:=List.mem_singleton.1 f;exact ⟨Int.le_refl _,by show (0 : Int) ≤ 2; decide,Hk c⟩
  split
  · exact F0 (.inl rfl) ⟨by omega,by omega⟩ (fun _ _=>by omega)
  split
  · exact F0 (.inr (.inl rfl)) ⟨by omega,by omega⟩ (fun _ _=>by omega)
  split
  · exact F0 (.inr (.inr (.inr (.inl rfl)))) ⟨by omega,by omega⟩ (fun _ _=>by omega)
  split
  · exact F0 (.inr (.inr (.inl rfl))) ⟨by omega,by omega⟩ (fun _ _=>by omega)
  split
  · exact F0 (i:=0) (.inr (.inr (.inr (.inr (.inl rfl))))) ⟨by omega,by omega⟩ (fun h _=>absurd rfl h)
  split
  · obtain ⟨L, g, l, m, n, o, j⟩ := y1p (a := a) (b := b) (c := c) f
    exact ⟨.inl g,(fun h=>by omega),by rw [l]; exact Nat.zero_le _,by rw [m]; decide,by rw [n]; decide,(fun h=>absurd g h),(fun h=>by omega),by rw [o]; exact Nat.zero_le _,(fun h=>by omega),by rw [j]; exact Nat.zero_le _,by rw [j]; exact (fun x f=>by cases f),L⟩
  exact F0 (i:=0) (.inr (.inr (.inr (.inr (.inr rfl))))) ⟨by omega,by omega⟩ (fun _ h=>absurd rfl h)
end
section
variable {t : Tr} {a : SA} {p : Pk} {now : Int} {l : FE}
theorem Ta (i : Inv t a) (h : TOk a) (b : K2 p) (w : p.kind ≠ 1 ∧ p.kind ≠ 14) : (∀ q ∈ (takeA a p now).2.1,PkR q) ∧ TOk (takeA a p now).1 ∧ ∃ t',Fz (t.inT p) (takeA a p now).2.1 = some t' ∧ Inv t' (takeA a p now).1:=by
  have u:=b.kk
  by_cases d : p.kind = 3 ∨ p.kind = 6
  · rw [B2 d]
    have s:=i.got d b.q
    have m : (∀ x ∈ (gotS a p.kind p.qos p.id).2.2,H3 x) ∧ TOk (gotS a p.kind p.qos p.id).1:=by
      rcases d with o | v
      · rw [o]; exact h.gotP fun c=>⟨b.id3 o c,b.id.2⟩
      exact h.got ⟨b.id1 (by omega) (by omega) (by omega) (by omega),b.id.2⟩
    refine ⟨fun q c=>?_,m.2,s⟩;obtain ⟨x,f,rfl⟩:=List.mem_map.1 c;exact m.1 x f
  by_cases r : p.kind = 4 ∨ p.kind = 5 ∨ p.kind = 7
  · rw [B3 r]
    have m:=h.ack (now:=now) i (k:=p.kind) (id:=p.id);refine ⟨fun q c=>?_,m.2,i.ack r⟩;obtain ⟨x,f,rfl⟩:=List.mem_map.1 c;exact m.1 x f
  by_cases n : p.kind = 8
  · rw [Qn n]
    refine ⟨fun q c=>?_,h,i.sub n rfl rfl (by simp) (Wb p.subs)⟩;obtain rfl:=List.mem_singleton.1 c;have y:=b.n1;exact S7 ⟨b.id1 (by omega) (by omega) (by omega) (by omega),b.id.2⟩ (by rw [List.length_map]; exact b.n0 n) (by rw [List.length_map]; omega) (x0j fun x f=>⟨(b.P x f).1,(b.P x f).2.1⟩)
  by_cases g : p.kind = 10
  · rw [Ky g]
    refine ⟨fun q c=>?_,h,i.uns g rfl rfl⟩;obtain rfl:=List.mem_singleton.1 c;exact Gn (.inr rfl) ⟨b.id1 (by omega) (by omega) (by omega) (by omega),b.id.2⟩
  have j : p.kind = 12:=by omega
  rw [Kz j];refine ⟨fun q c=>?_,h,i.ping j⟩;obtain rfl:=List.mem_singleton.1 c;exact H4
theorem x8n (d : K2 p) {m : Ms} (b : m ∈ (takeA a p now).2.2.toList) : MOk m ∧ m.pay = p.pay:=by
  by_cases c : p.kind = 3 ∨ p.kind = 6
  · rw [B2 c] at b
    simp only at b
    split at b
    · rename_i h3
      obtain rfl : m = ⟨p.topic,p.pay,p.qos,p.retain⟩:=by simpa using b
      exact ⟨⟨d.q,(d.nm h3.1).2,d.ts,d.py⟩,rfl⟩
    cases b
  unfold takeA at b;rw [if_neg c] at b
  repeat' split at b
  all_goals cases b
theorem y1r {N : Int} (h : Bd N a l) : Bd (N + 1) (takeA a p now).1 l:=by
  have b:=h.up (M:=N + 1) (by omega);unfold takeA
  split
  · exact h.got_
  split
  · exact (h.ack).up (by omega)
  split
  · exact b
  split <;> exact b
theorem y1s {k : ByteArray} {q : Int} (h : LsOk l) (c : H2 l k = some q) : 0 ≤ q ∧ q ≤ 2:=by
  have g : ∀ (r : FE),(∀ x ∈ r,0 ≤ x.2 ∧ x.2 ≤ 2) → ∀ o : Option Int,(∀ q,o = some q → 0 ≤ q ∧ q ≤ 2) → ∀ q,r.foldl (x2u k) o = some q → 0 ≤ q ∧ q ≤ 2:=by
    intro r
    induction r with
    | nil=>intro _ o d q c; exact d q c
    | cons x r ih=>
      intro j o d q c;refine ih (fun y m=>j y (by simp [m])) _ (fun i b=>?_) q c;unfold x2u at b;have f:=j x (by simp)
      split at b
      · cases o with
        | none=>
          obtain rfl : x.2 = i:=by simpa using b
          exact f
        | some q1=>
          obtain rfl : max q1 x.2 = i:=by simpa using b
          have:=d q1 rfl;omega
      exact d i b
  exact g l (fun x f=>⟨(h.ok x f).2.1,(h.ok x f).2.2.1⟩) none (fun q h=>by cases h) q c
theorem y1t {m : Ms} {q : Int} (h : MOk m) (b : 0 ≤ q ∧ q ≤ 2) : MOk ⟨m.tp,m.pay,min m.qos q,false⟩:=⟨by have:=h.q; show 0 ≤ min m.qos q ∧ min m.qos q ≤ 2; omega,h.t,h.ts,h.p⟩
def Ui (cl : Bool) : Pk:={ kind:=1,level:=4,client:=kk,clean:=cl }
theorem x3e (cl : Bool) : ∃ t',Fz ((Tr.new true).inT (Ui cl)) [{ kind:=2 }] = some t' ∧ Inv t' Vd:=by
  refine ⟨{ (Tr.new true).inT (Ui cl) with told:=[{ kind:=2 }] },rfl,⟨rfl,rfl,⟨_,rfl,rfl,rfl⟩,rfl,rfl,fun k=>rfl⟩,⟨fun f b=>(by cases b),fun d _=>rfl⟩,⟨List.Perm.nil,List.nodup_nil,Int.le_refl _,Nat.zero_le _,fun f b=>(by cases b),fun m c=>(by cases c)⟩⟩
theorem y1u : TOk Vd:=⟨fun f b=>(by cases b),fun m c=>(by cases c)⟩
theorem y5q : Bd 0 Vd []:=⟨⟨Int.le_refl _,Int.le_refl _⟩,Int.le_refl _,Int.le_refl _⟩
theorem y1v (cl : Bool) : (Ui cl).Len:=by constructor <;> first | exact Nat.zero_le _ | (show (1 : Nat) ≤ _; decide) | exact fun x b=>by cases b
end
end Go.Proofs.YtkdeedhjkjffpaaGreat
namespace Go.Proofs.YtkdeedhjkjffpaaGreat
open Go.RowKit Go.Hub
section
variable {T : List TypeId} {M : List Nat} {B : Nat} {w w' : World} {A LA : Option Addr} {n size c : Nat} {xs : List Value}
theorem _root_.Go.Hub.Mod.sub_ne {k : Nat} {t : TypeId} (d : Mod T M B w w') (h : Typ w k [t]) (f : t ∉ T) : w'.heap[k]? = w.heap[k]?:=by
  have b : k < w.heap.size:=by obtain ⟨i,e,j,a,_⟩:=h; exact (Array.getElem?_eq_some_iff.1 a).1
  exact d.block k b (.inr ⟨IdB h f,fun g=>h.not_map g.1⟩)
theorem _root_.Go.Hub.Cs.eqs {E : List TypeId} (h : Cs E B w A n size xs) (o : w.heap.size ≤ w'.heap.size) (i : ∀ b,A.map (·.block) = some b → (b < B ∨ Typ w b E) → w'.heap[b]? = w.heap[b]?) : Cs E B w' A n size xs:=
  ⟨h.1,fun m=>by
    obtain ⟨b,d,e,l,f,k⟩:=h.2 m
    have g:=i b (by rw [e]; rfl) f
    exact ⟨b,d,e,Nat.lt_of_lt_of_le l o,f.imp_right fun f=>f.of_eq g,fun j u p=>(World.cell?_of_block (w:=w) (a:=⟨b,d + j,none⟩) g).trans (k j u p)⟩⟩
theorem RefAt.modM {s : Rs} {p : Nat} (h : RefAt B w p s) (b : Mod T M B w w') (a : ∀ t ∈ ([111,185,160,58,143,79,5] : List TypeId),t ∉ T) (hi : s.im ∉ M) (d : s.gm ∉ M) : RefAt B w' p s:=
  ⟨h.top.mod b (a _ (by simp)),h.ids.mod b (a _ (by simp)) hi,h.qu.mod b ⟨a _ (by simp),a _ (by simp),a _ (by simp)⟩,h.fly.mod b ⟨a _ (by simp),a _ (by simp)⟩,h.ls.mod b (a _ (by simp)),h.got.mod b d,h.ne,h.lop,h.loi,h.lom,h.log,h.tk,h.perm,h.ats,h.idb⟩
theorem Bk.modM {b i k j : Nat} {f : Option Addr} {at_ : Int} {g : Bool} {s : Rs} (h : Bk B w b i k f j at_ g s) (d : Mod T M B w w') (a : ∀ t ∈ ([29,93,76,111,185,160,58,143,79,5] : List TypeId),t ∉ T) (hi : s.im ∉ M) (l : s.gm ∉ M) : Bk B w' b i k f j at_ g s:=
  ⟨h.bb.mod d (a _ (by simp)),h.ro.mod d (a _ (by simp)),h.lk.mod d (a _ (by simp)),h.se.modM d (fun t m=>a t (by revert m; exact (by decide : ∀ t ∈ ([111,185,160,58,143,79,5] : List TypeId),t ∈ ([29,93,76,111,185,160,58,143,79,5] : List TypeId)) t)) hi l,h.cl,h.lob,h.lol,h.loS⟩
end
section
variable {T : List TypeId} {M : List Nat} {B B0 g : Nat} {w w' : World} {t : Tr} {m : TrM} {LA : Option Addr}
theorem PkO.modS {p : Pk} {s : Ad} (h : PkO w p s) (c : Mod T M B w w') (b : (5 : TypeId) ∉ T) (d : (3 : TypeId) ∉ T) (f : Cs [79] 0 w' s.ua p.subs.length 2 (subCells p.subs)) : PkO w' p s:=by
  have a : Mod T M 0 w w':=c.mono (fun _ h=>h) (fun _ h=>h) (Nat.zero_le _);exact ⟨h.pay.mod a (by simpa using b),h.wp.mod a (by simpa using b),h.pass.mod a (by simpa using b),f,h.codes.mod c d⟩
theorem TrIn.modS (I : TrIn B0 w g t m) (b : Mod T M B w w') (a : ∀ x ∈ ([71,39,5,3] : List TypeId),x ∉ T) (d : m.mo ∉ M ∧ m.mf ∉ M) (i : ∀ x ∈ m.subs,Cs [79] 0 w' x.2.ua x.1.subs.length 2 (subCells x.1.subs)) (f : ∀ x ∈ m.out,Cs [79] 0 w' x.2.s.ua x.2.p.subs.length 2 (subCells x.2.p.subs)) : TrIn B0 w' g t m:=
  ⟨I.e1, I.e2, I.e3, I.e4, I.bt.mod b (a _ (by simp)), Own.mod I.rt b (a _ (by simp)), Own.mod I.rs b (a _ (by simp)), Own.mod I.ru b (a _ (by simp)), IsAss.of_block I.mo (b.block _ I.mo.lt (.inr ⟨fun h => h.not_map (IsAss.mapB I.mo), fun h => d.1 h.2⟩)), IsAss.of_block I.mf (b.block _ I.mf.lt (.inr ⟨fun h => h.not_map (IsAss.mapB I.mf), fun h => d.2 h.2⟩)), I.nof, I.tu, I.tn, I.un, I.lo,
    fun x c=>⟨(I.ps x c).1.modS b (a _ (by simp)) (a _ (by simp)) (i x c),(I.ps x c).2⟩,fun x c=>⟨(I.pf x c).1.modS b (a _ (by simp)) (a _ (by simp)) (f x c),(I.pf x c).2⟩,I.len⟩
theorem x8o {p : Pk} {s : Ad} (h : PkO w p s) (d : Mod T M B w w') (a : (79 : TypeId) ∉ T) : Cs [79] 0 w' s.ua p.subs.length 2 (subCells p.subs):=
  h.subs.eqs d.size fun b _ c=>(c.elim (fun h=>by omega) fun c=>d.sub_ne c a)
theorem TrIn.mod0 (I : TrIn B0 w g t m) (c : Mod T M B w w') (b : ∀ x ∈ ([71,39,5,3,79] : List TypeId),x ∉ T) (d : m.mo ∉ M ∧ m.mf ∉ M) : TrIn B0 w' g t m:=
  I.modS c (fun x a=>b x (by revert a; exact (by decide : ∀ x ∈ ([71,39,5,3] : List TypeId),x ∈ ([71,39,5,3,79] : List TypeId)) x)) d (fun x a=>x8o (I.ps x a).1 c (b _ (by simp))) (fun x a=>x8o (I.pf x a).1 c (b _ (by simp)))
theorem x3f (I : TrIn B0 w g t m) (a : NoSub t) : ∀ x ∈ m.out,x.2.p.subs = []:=fun x b=>a (x.1,x.2.pure) (by rw [I.e4]; exact List.mem_map.2 ⟨x,b,rfl⟩)
theorem TrIn.modL (I : TrIn B0 w g t m) (d : NoSub t) (a : Mod T M B w w') (j : ∀ x ∈ ([71,39,5,3] : List TypeId),x ∉ T) (i : m.mo ∉ M ∧ m.mf ∉ M) (c : LFar w w' LA) (k : ∀ x ∈ m.subs,∀ b,x.2.ua.map (·.block) = some b → LA.map (·.block) ≠ some b) : TrIn B0 w' g t m:=
  I.modS a j i (fun x hx=>(I.ps x hx).1.subs.eqs a.size fun b hb ht=>ht.elim (fun h=>by omega) fun ht=>by
    have hk : b < w.heap.size:=by obtain ⟨n,e,o,f,_⟩:=ht; exact (Array.getElem?_eq_some_iff.1 f).1
    exact c b hk ht fun y l e=>k x hx b hb (e ▸ l)) (fun x hx=>by rw [x3f I d x hx]; exact Cs.nil _ _ _ _ _)
theorem x8p (I : TrIn B w g t m) (c : Kept (m.fp g) w w') : Mod [71,39] [m.mo,m.mf] B w w':=.of_kept c fun x b d=>by
  refine ⟨I.lo x b,?_⟩
  rcases fp_mem.1 b with rfl | rfl | rfl | a | a | a
  · exact .inl (I.bt.typ (by simp))
  · exact .inr ⟨IsAss.mapB I.mo,by simp⟩
  · exact .inr ⟨IsAss.mapB I.mf,by simp⟩
  · exact .inl (Hn I.rt a (by simp))
  · exact .inl (Hn I.rs a (by simp))
  exact .inl (Hn I.ru a (by simp))
end
def Apt (m : TrM) (s : Rs) : Prop:=(m.mo ≠ s.im ∧ m.mo ≠ s.gm) ∧ m.mf ≠ s.im ∧ m.mf ≠ s.gm
theorem Apt.t {m : TrM} {s : Rs} (h : Apt m s) : m.mo ∉ [s.im,s.gm] ∧ m.mf ∉ [s.im,s.gm]:=⟨by simpa using h.1,by simpa using h.2⟩
theorem Apt.s {m : TrM} {s : Rs} (h : Apt m s) : s.im ∉ [m.mo,m.mf] ∧ s.gm ∉ [m.mo,m.mf]:=⟨by simpa using ⟨fun e=>h.1.1 e.symm,fun e=>h.2.1 e.symm⟩,by simpa using ⟨fun e=>h.1.2 e.symm,fun e=>h.2.2 e.symm⟩⟩
theorem Apt.post {m b : TrM} {s : Rs} {g : Nat} {w : World} (h : ∀ x ∈ m.fp g,x ≠ s.im ∧ x ≠ s.gm) (c : ∀ x ∈ b.fp g,x ∈ m.fp g ∨ w.heap.size ≤ x) (hi : s.im < w.heap.size) (f : s.gm < w.heap.size) : ∀ x ∈ b.fp g,x ≠ s.im ∧ x ≠ s.gm:=fun x d=>by
  rcases c x d with a | a
  · exact h x a
  omega
def Aps (m : TrM) (g : Nat) (s : Rs) : Prop:=∀ x ∈ m.fp g,x ≠ s.im ∧ x ≠ s.gm
theorem Aps.apt {m : TrM} {g : Nat} {s : Rs} (h : Aps m g s) : Apt m s:=⟨h _ Kr,h _ Qb⟩
theorem Aps.like {m : TrM} {g : Nat} {s a : Rs} (h : Aps m g s) (hi : a.im = s.im) (b : a.gm = s.gm) : Aps m g a:=fun x c=>by
  rw [hi,b]
  exact h x c
theorem Bk.maps {B b d g f : Nat} {w : World} {a : Option Addr} {at_ : Int} {c : Bool} {s : Rs} (K : Bk B w b d g a f at_ c s) : s.im < w.heap.size ∧ s.gm < w.heap.size:=⟨K.se.ids.set.lt,K.se.got.lt⟩
structure y7x (B b g : Nat) (N : Int) (Nm : Nat) (o : List Oc) (j : Nat) (w : World) (lp sp : Nat) (SA : Option Addr) (sc : Nat) (at_ : Int) (cn : Bool) (s : Rs) (ps : List Pk) (tj t' : Tr) (m : TrM) : Prop where
  K : Bk B w b lp sp SA sc at_ cn s
  I : Inv t' s.abs
  T : TOk s.abs
  L : LsOk s.ls
  D : Bd N s.abs s.ls
  EN : EncL o ps
  R : Fz tj (ps.drop j) = some t'
  TR : TrIn B w g tj m
  NS : NoSub tj
  n : m.n ≤ Nm + j
  ap : Aps m g s
def Gs (cl : Bool) (B b g : Nat) (N : Int) (Nm : Nat) (o : List Oc) (j : Nat) (w : World) : Prop:=
  (cl = true ∧ j = 0 ∧ ∃ r SA n sc,o = Dj :: r ∧ Blk w b 29 (Ic none SA n sc)) ∨ (cl = false ∧ ∃ lp sp SA sc at_ cn s ps tj t' m,y7x B b g N Nm o j w lp sp SA sc at_ cn s ps tj t' m)
abbrev TG : List TypeId:=[29,93,76,111,185,160,58,143,79,5,71,39,3]
section
variable {T : List TypeId} {B b g Nm j : Nat} {w w' : World} {N : Int} {o : List Oc} {cl : Bool}
theorem Gs.mod (h : Gs cl B b g N Nm o j w) (d : Mod T [] B w w') (c : ∀ x ∈ TG,x ∉ T) : Gs cl B b g N Nm o j w':=by
  rcases h with ⟨e,q,r,a,n,i,l,p⟩ | ⟨e,t,v,a,i,at_,k,s,u,z,y,m,h⟩
  · exact .inl ⟨e,q,r,a,n,i,l,p.mod d (c _ (by simp))⟩
  exact .inr ⟨e,t,v,a,i,at_,k,s,u,z,y,m,⟨h.K.modM d (fun x f=>c x (by revert f; exact (by decide : ∀ x ∈ ([29,93,76,111,185,160,58,143,79,5] : List TypeId),x ∈ TG) x)) (by simp) (by simp),h.I,h.T,h.L,h.D,h.EN,h.R,h.TR.mod0 d (fun x f=>c x (by revert f; exact (by decide : ∀ x ∈ ([71,39,5,3,79] : List TypeId),x ∈ TG) x)) ⟨by simp,by simp⟩,h.NS,h.n,h.ap⟩⟩
theorem Gs.k0 (h : Gs cl B b g N Nm o j w) (a : Kept [] w w') : Gs cl B b g N Nm o j w':=h.mod (T:=[]) (.o0 a) (by simp)
end
def FmM (B : Nat) (w w' : World) : Prop:=∃ T M,Mod T M B w w' ∧ (61 : TypeId) ∉ T ∧ (5 : TypeId) ∉ T ∧ (48 : TypeId) ∉ T
theorem FmM.size {B : Nat} {w w' : World} (h : FmM B w w') : w.heap.size ≤ w'.heap.size:=by obtain ⟨T,M,h,_⟩:=h; exact h.size
theorem FmM.blw {B : Nat} {w w' : World} (h : FmM B w w') (a : B ≤ w.heap.size) : Below B w w':=by obtain ⟨T,M,h,_⟩:=h; exact h.blw a
theorem FmM.blk {B g : Nat} {w w' : World} {cs : Array Value} (h : FmM B w w') (b : Blk w g 48 cs) : Blk w' g 48 cs:=by obtain ⟨T,M,h,_,_,a⟩:=h; exact b.mod h a
theorem FmM.outs {B : Nat} {a w w' : World} {A : Option Addr} {c : Nat} {o : List Oc} (h : FmM B w w') (O : OutsAt B a w A c o) : OutsAt B a w' A c o:=by obtain ⟨T,M,h,b,d,_⟩:=h; exact O.mod h ⟨b,d⟩
def y9l (B b g : Nat) (N : Int) (t : Tr) (m : TrM) (w : World) : Prop:=∃ lp sp SA sc at_ cn s,Bk B w b lp sp SA sc at_ cn s ∧ Inv t s.abs ∧ TOk s.abs ∧ LsOk s.ls ∧ Bd N s.abs s.ls ∧ Aps m g s
def Fre_ (B b : Nat) (w : World) : Prop:=∃ lp at_,Blk w b 29 (Ic (some ⟨lp,0,none⟩) none 0 0) ∧ Blk w lp 76 (Um ⟨#[]⟩ at_ false) ∧ B ≤ b ∧ B ≤ lp
def LoopS (B b g i : Nat) (w : World) : Prop:=∃ t m,TrIn B w g t m ∧ NoSub t ∧ m.n ≤ 40 * i ∧ ((i = 0 ∧ t = Tr.new true ∧ Fre_ B b w) ∨ (0 < i ∧ y9l B b g (2 * i) t m w))
def x8q (c : Bool) (B b g i : Nat) (p : Pk) (ad : Ad) (gp : Nat) (w : World) : Prop := ∃ t m, TrIn B w g t m ∧ NoSub t ∧ m.n ≤ 40 * i ∧ PkS B w p ad ∧ p.Len ∧ gp ∉ m.fp g ∧ ((i = 0 ∧ t = Tr.new true ∧ Fre_ B b w ∧ p = Ui c ∧ ad = s0) ∨
  (0 < i ∧ K2 p ∧ Pay B w ad.pa p.pay ∧ (∀ x,ad.ua.map (·.block) = some x → Typ w x [5,79,3]) ∧ ∃ lp sp SA sc at_ cn s,Bk B w b lp sp SA sc at_ cn s ∧ Inv t s.abs ∧ TOk s.abs ∧ LsOk s.ls ∧ Bd (2 * i) s.abs s.ls ∧ Aps m g s ∧ ∀ x,ad.ua.map (·.block) = some x → s.LA.map (·.block) ≠ some x))
def y7y (c : Bool) (B b g i : Nat) (p : Pk) (ad : Ad) (w : World) : Prop := ∃ m, m.n ≤ 40 * i + 1 ∧ PkS B w p ad ∧ ((i = 0 ∧ TrIn B w g ((Tr.new true).inT (Ui c)) m ∧ Fre_ B b w ∧ p = Ui c ∧ ad = s0) ∨
  (0 < i ∧ K2 p ∧ Pay B w ad.pa p.pay ∧ (∀ x,ad.ua.map (·.block) = some x → Typ w x [5,79,3]) ∧ ∃ t lp sp SA sc at_ cn s,TrIn B w g (t.inT p) m ∧ NoSub (t.inT p) ∧ Bk B w b lp sp SA sc at_ cn s ∧ Inv t s.abs ∧ TOk s.abs ∧ LsOk s.ls ∧ Bd (2 * i) s.abs s.ls ∧ Aps m g s ∧ (∀ x,ad.ua.map (·.block) = some x → s.LA.map (·.block) ≠ some x) ∧ ∀ x ∈ m.subs,∀ y,x.2.ua.map (·.block) = some y → s.LA.map (·.block) ≠ some y))
theorem x3g {p : Pk} (a : RightP p) : 0 ≤ p.id ∧ p.id ≤ 65535:=by
  cases hn : Bv p with
  | true=>exact Yq a hn
  | false=>
    have b : p.kind = 3 → ¬ 0 < p.qos:=fun e c=>by
      rw [x3z e] at hn;simp at hn;omega
    have d : ¬ (4 ≤ p.kind ∧ p.kind ≤ 11):=fun c=>by rw [Dz c] at hn; cases hn
    have : p.id = 0:=by
      conv=>lhs; rw [a.bare]
      unfold Ak
      rcases kind_cases a.kd with e | e | e | e | e | e | e | e | e | e | e | e | e | e <;> first | (exfalso; omega) | (simp [e,hn]; done) | (have:=b e; simp [e,hn]; omega)
    omega
section
variable {c : Bool} {B b g i : Nat} {p : Pk} {ad : Ad} {w w' : World}
theorem Fre_.mod {T : List TypeId} {M : List Nat} (h : Fre_ B b w) (d : Mod T M B w w') (a : (29 : TypeId) ∉ T ∧ (76 : TypeId) ∉ T) : Fre_ B b w':=by
  obtain ⟨l,at_,f,j,k⟩:=h;exact ⟨l,at_,f.mod d a.1,j.mod d a.2,k⟩
theorem x8r {t : Tr} {m : TrM} (I : TrIn B w g t m) : ∀ x ∈ m.fp g,x < w.heap.size:=fun x d=>by
  rcases fp_mem.1 d with rfl | rfl | rfl | a | a | a
  · exact I.bt.lt
  · exact I.mo.lt
  · exact I.mf.lt
  · exact (I.rt.blk x ((Ag _ _ _ _).2 a)).1
  · exact (I.rs.blk x ((Ag _ _ _ _).2 a)).1
  exact (I.ru.blk x ((Ag _ _ _ _).2 a)).1
theorem y7z {t : Tr} {m : TrM} (I : TrIn B w g t m) : NoPk w (m.fp g):=fun y h a d=>by
  rcases fp_mem.1 h with rfl | rfl | rfl | f | f | f
  · exact NoPk.blk I.bt (by decide) _ (by simp) a d
  · exact NoPk.map I.mo _ (by simp) a d
  · exact NoPk.map I.mf _ (by simp) a d
  · exact NoPk.own I.rt _ (by simpa using (Ag _ _ _ _).2 f) a d
  · exact NoPk.own I.rs _ (by simpa using (Ag _ _ _ _).2 f) a d
  exact NoPk.own I.ru _ (by simpa using (Ag _ _ _ _).2 f) a d
theorem y1w {T E : List TypeId} {M : List Nat} {k : Nat} (m : Mod T M B w w') (h : Typ w k E) (l : ∀ t ∈ E,t ∉ T) : w'.heap[k]? = w.heap[k]?:=by
  obtain ⟨a,t,d,f,j⟩:=h;exact m.sub_ne (t:=t) ⟨a,t,d,f,by simp⟩ (l t j)
theorem y2s {h k j : Nat} {a : Option Addr} {at_ : Int} {d : Bool} {s : Rs} (K : Bk B w b h k a j at_ d s) {x : Nat} (f : s.LA.map (·.block) = some x) : x < w.heap.size:=(K.se.ls.own.blk x ((Ag _ _ _ _).2 f)).1
theorem LoopS.first {a : Nat} (h : LoopS B b g 0 w) (d : Kept [] w w') (o : w.heap.size ≤ a) : x8q c B b g 0 (Ui c) s0 a w':=by
  obtain ⟨t,m,T,f,l,h⟩:=h
  rcases h with ⟨k,n,h⟩ | ⟨k,_⟩
  · exact ⟨t,m,T.k0 d,f,l,⟨Bs.nil _ _ _ _,Bs.nil _ _ _ _,Bs.nil _ _ _ _,Cs.nil _ _ _ _ _,Cs.nil _ _ _ _ _⟩,y1v c,fun j=>by have:=x8r T _ j; omega,.inl ⟨rfl,n,h.mod (T:=[]) (M:=[]) (.o0 d) (by simp),rfl,rfl⟩⟩
  omega
theorem LoopS.pre {j : Nat} (h : LoopS B b g i w) (l : Kept [] w w') (a4 : 0 < i) (hg : w.heap.size ≤ j) (n : K2 p) (r : PkS B w' p ad) (a : ∀ x,ad.ua.map (·.block) = some x → w.heap.size ≤ x ∧ Typ w' x [5,79,3]) (o : Pay B w' ad.pa p.pay) : x8q c B b g i p ad j w':=by
  obtain ⟨t,m,T,q,hn,h⟩:=h
  rcases h with ⟨k,_⟩ | ⟨k,lp,f,u,sc,at_,v,s,K,y,z,h3,h4,h5⟩
  · omega
  exact ⟨t,m,T.k0 l,q,hn,r,n.len,fun h9=>by have:=x8r T _ h9; omega,.inr ⟨k,n,o,fun x d=>(a x d).2,lp,f,u,sc,at_,v,s,K.k0 l,y,z,h3,h4,h5,fun x d e=>by
    have:=y2s K e;have:=(a x d).1
    omega⟩⟩
theorem y1x {q : Nat} (h : x8q c B b g i p ad q w) (hi : i ≤ 1000) (BP : Blk w q 39 (p.cells ad)) (hB : B ≤ w.heap.size) : Calls Tryz.prog 8 #[.pointer (some ⟨g,0,none⟩),.agg (p.cells ad)] w (fun e w'=>e = .returned (.tuple #[]) ∧ y7y c B b g i p ad w' ∧ Below B w w' ∧ Blk w' q 39 (p.cells ad)):=by
  obtain ⟨t,m,T,NS,hn,PS,hL,v,h⟩:=h
  have z : 0 ≤ p.id ∧ p.id ≤ 65535:=by
    rcases h with ⟨_,_,_,rfl,_⟩ | ⟨_,sp,_⟩
    · exact ⟨Int.le_refl _,by show (0 : Int) ≤ 65535; decide⟩
    exact sp.id
  refine (Xz p ad (G0 z.1 (by omega)) B g t m w T (by omega) PS hL).mono ?_;rintro e w' ⟨rfl,m',T',ak,hk,u,j⟩;have d:=x8p T hk;have o : PkS B w' p ad:=PS.kT hk (y7z T) T.lo;refine ⟨rfl,⟨m',by omega,o,?_⟩,d.blw hB,BP.kept hk v⟩
  rcases h with ⟨a,ht,hf,rfl,rfl⟩ | ⟨a,sp,HP,k,lp,a2,SA,sc,at_,cn,s,K,h1,h2,h3,h4,r,h6⟩
  · subst ht
    exact .inl ⟨a,T',hf.mod d (by decide),rfl,rfl⟩
  have f:=K.maps;refine .inr ⟨a,sp,⟨HP.1.mod d (by decide),HP.2⟩,fun x n=>(k x n).of_eq (y1w d (k x n) (by decide)),t,lp,a2,SA,sc,at_,cn,s,T',NS.inT,K.modM d (by decide) (Aps.apt r).s.1 (Aps.apt r).s.2,h1,h2,h3,h4,Apt.post r u f.1 f.2,h6,fun x n y hy e=>?_⟩
  rcases j x n with l | l
  · have e1 : m.subs.map (·.1) = [] := by rw [← T.e2]; exact h1.calm.subs
    rw [List.map_eq_nil_iff.1 e1] at l;cases l
  have:=y2s K e;have:=l y hy;omega
def y8a (B b g : Nat) (N : Int) (Nm : Nat) (w : World) (e : Ending) (w' : World) : Prop:=∃ cl A n c Am nm cm D1 n1 c1 D2 n2 c2 o,e = .returned (.tuple #[.agg #[.slice A n c,.slice Am nm cm,.slice D1 n1 c1,.slice D2 n2 c2],.int .i64 0]) ∧ n = (o : List Oc).length ∧ Gs cl B b g N Nm o 0 w' ∧ OutsAt B w w' A c o ∧ Below B w w' ∧ o.length ≤ 10 ∧ (nm = 0 ∨ (cl = false ∧ nm = 1 ∧ ∃ ms mA mc,Sl w' Am 1 4 (mcell ⟨ms,mA,mc⟩) ∧ Pay B w' mA ms.pay ∧ MOk ms))
theorem x3h {a : SA} {now : Int} (h : p.kind = 1 ∨ p.kind = 14) : ∀ q ∈ (takeA a p now).2.1,PkR q:=by
  unfold takeA;rw [if_neg (by omega),if_neg (by omega),if_neg (by omega),if_neg (by omega)];intro q d;obtain rfl:=List.mem_singleton.1 d;exact H4
theorem Yb (h : y7y c B b g i p ad w) (hi : i ≤ 1000) (hB : B ≤ w.heap.size) : Calls Tryz.prog 9 #[.pointer (some ⟨b,0,none⟩),.int .i64 0,.agg (p.cells ad),.int .i64 i,.agg #[.slice none 0 0,.slice none 0 0,.slice none 0 0,.slice none 0 0]] w (y8a B b g (2 * i + 1) (40 * i + 1) w):=by
  obtain ⟨m,r,PS,h⟩:=h
  rcases h with ⟨ac,T,⟨y,at_,BB,BL,a8,a9⟩,rfl,rfl⟩ | ⟨ac,d,HP,ag,t,y,z,SA,sc,at_,cn,s,T,NS,K,h1,h2,h3,h4,h5,h6,h7⟩
  · refine (x3c b y at_ false c i B w BB BL a8 a9 hB).mono ?_
    rintro e w' ⟨d,SA,sc,s,A,n,u,o,rfl,l,K,f,k,bf,bc,hm,EN,OU⟩;obtain ⟨t',hr,hI⟩:=x3e c;have hf:=x8r T;have bh:=hf _ Kr;have bg:=hf _ Qb;have bj : o.length = 1:=by have h1:=congrArg List.length EN.enc; simpa using h1
    refine ⟨false,A,n,u,none,0,0,none,0,0,none,0,0,o,rfl,l,.inr ⟨rfl,y,d,SA,sc,_,c,s,_,_,t',m,⟨K,by rw [f]; exact hI,by rw [f]; exact y1u,by rw [k]; exact ⟨List.Pairwise.nil,fun p hp=>(by cases hp),Nat.zero_le _⟩,by rw [f,k]; exact y5q.up (by omega),EN,hr,T.mod0 hm (by decide) ⟨?_,?_⟩,NoSub.inT (fun x hx=>by cases hx),by omega,fun x hx=>?_⟩⟩,OU,hm.blw hB,by omega,.inl rfl⟩
    · simp; omega
    · simp; omega
    have:=hf x hx;omega
  have hD:=h4;have k:=h4.ls;have bd : (s.got.length : Int) ≤ 2 * i:=h4.got;have bi:=d.n1;have bm:=d.ts;have SU : Sl w ad.ua p.subs.length 2 (p.subs.flatMap scp):=Sl.of_rds PS.subs.rds
  have v : ∀ q ∈ (takeA s.abs p i).2.1,PkR q:=by
    by_cases j : p.kind = 1 ∨ p.kind = 14
    · exact x3h j
    exact (Ta h1 h2 d ⟨by omega,by omega⟩).1
  refine (x8b b y z SA sc at_ cn s B p ad i w K SU ag h6 d.P d.n0 (by omega) (fun j=>⟨d.id1 (by omega) (by omega) (by omega) (by omega),d.id.2⟩) h3 (by omega) hB (G0 d.id.1 (by have:=d.id.2; omega)) (by unfold maxLen; omega) (fun j=>(d.nm j).1) (by omega) d.kk v).mono ?_;rintro e w' (⟨A,u,D,n,dc,a6,m2,ai,j,rfl,aa,BB,OU⟩ | ⟨j,A,n,u,Am,nm,cm,D1,n1,c1,D2,n2,c2,s',o,rfl,l,X⟩)
  · exact ⟨true,A,1,u,none,0,0,none,0,0,D,n,dc,[Dj],rfl,rfl,.inl ⟨rfl,rfl,[],a6,m2,ai,rfl,BB⟩,OU,aa,by simp,.inl rfl⟩
  obtain ⟨_,q2,t',q3,q4⟩:=Ta (now:=i) h1 h2 d j;have hd:=y1r (p:=p) (now:=i) hD;refine ⟨false,A,n,u,Am,nm,cm,D1,n1,c1,D2,n2,c2,o,rfl,l,.inr ⟨rfl,y,z,SA,sc,_,cn,s',_,_,t',m,⟨X.K,by rw [X.abs]; exact q4,by rw [X.abs]; exact q2,X.ok,by rw [X.abs]; exact ⟨hd.lost,hd.got,by have:=X.len; omega⟩,X.EN,q3,T.modL NS X.HM (by decide) (Aps.apt h5).t X.HL h7,NS,by omega,Aps.like h5 X.im X.gm⟩⟩,X.OU,X.HM.blw hB,X.ho,?_⟩;have r:=X.nm;have hs:=X.sl
  cases hq : (takeA s.abs p i).2.2 with
  | none=>rw [hq] at r; exact .inl r
  | some ms=>
    rw [hq] at r hs;obtain ⟨w1,w2⟩:=x8n (a:=s.abs) (now:=i) d (m:=ms) (by rw [hq]; simp);refine .inr ⟨rfl,r,ms,ad.pa,ad.pc,?_,?_,w1⟩
    · have ae : nm = 1 := r
      rw [ae] at hs
      simpa using hs
    rw [w2];exact ⟨HP.1.mod X.HM (by decide),HP.2⟩
def x8s (cl : Bool) (B b g : Nat) (N : Int) (Nm : Nat) (o : List Oc) (w : World) (v : Option Addr → Nat → Nat → Value) (e : Ending) (w' : World) : Prop:=∃ A n c o2,e = .returned (v A n c) ∧ n = (o2 : List Oc).length ∧ Gs cl B b g N Nm (o ++ o2) 0 w' ∧ OutsAt B w w' A c o2 ∧ FmM B w w' ∧ o2.length ≤ 10
theorem Uj {N x : Int} {y l u q n f : Nat} {o : List Oc} {d A : Option Addr} {at_ : Int} {h : Bool} {s : Rs} {ps : List Pk} {tj t' : Tr} {m : TrM} {r : Go.Proofs.YtkdeedhjkjffpaaGreat.SA × List Pa} {v : Option Addr → Nat → Nat → Value} (G : y7x B b g N y o 0 w l u d q at_ h s ps tj t' m) (X : GiveD B b l u d q at_ h s r w n A f w') (k : ∃ t2,Fz t' (r.2.map Pa.pk) = some t2 ∧ Inv t2 r.1) (ht : TOk r.1) (hd : Bd x r.1 s.ls) : x8s false B b g x y o w v (.returned (v A n f)) w':=by
  obtain ⟨s',o2,j,K,L,hm,a,EN,OU,ho⟩:=X;obtain ⟨t2,k,hI⟩:=k;refine ⟨A,n,f,o2,rfl,j,.inr ⟨rfl,l,u,d,q,at_,h,s',ps ++ r.2.map Pa.pk,tj,t2,m,⟨K,by rw [a]; exact hI,by rw [a]; exact ht,by rw [L.ls]; exact G.L,by rw [a,L.ls]; exact hd,G.EN.app EN,?_,G.TR.mod0 hm (by decide) (Aps.apt G.ap).t,G.NS,G.n,Aps.like G.ap L.im L.gm⟩⟩,OU,⟨_,_,hm,by decide⟩,ho⟩;have z:=G.R;rw [List.drop_zero] at z ⊢;exact Kx z k
theorem Yc {N now : Int} {r : Nat} {o : List Oc} {a : Ms} {f : Option Addr} {k : Nat} (h : Gs false B b g N r o 0 w) (l : Pay B w f a.pay) (j : MOk a) (x : B ≤ w.heap.size) (hN : N ≤ 1000000) : Calls Tryz.prog 10 #[.pointer (some ⟨b,0,none⟩),.agg (mcell ⟨a,f,k⟩).toArray,.int .i64 now] w (x8s false B b g (N + 1) r o w Value.slice):=by
  rcases h with ⟨h,_⟩ | ⟨_,lp,sp,t,sc,at_,u,s,ps,tj,t',m,G⟩
  · cases h
  have d : 0 ≤ s.lost ∧ s.lost ≤ 1000000000:=⟨G.D.lost.1,by have : s.lost ≤ N:=G.D.lost.2; omega⟩
  cases hq : H2 s.ls a.tp with
  | none=>
    refine (x2x b lp sp t sc at_ u s B a f k now w G.K l G.L (by have:=j.ts; omega) x d hq).mono ?_;rintro e w' ⟨A,n,c',rfl,X⟩;exact Uj (v:=Value.slice) G X ⟨t',rfl,G.I⟩ G.T (G.D.up (by omega))
  | some q=>
    have y:=y1t j (y1s G.L hq);have z:=G.T.send (now:=now) G.I y true;refine (x2y b lp sp t sc at_ u s B a f k now w G.K l G.L (by have:=j.ts; omega) x d q hq z.1).mono ?_;rintro e w' ⟨A,n,c',rfl,X⟩;exact Uj (v:=Value.slice) G X (G.I.send y.q true) z.2 G.D.send
theorem Yd {cl : Bool} {N now : Int} {j : Nat} {o : List Oc} (h : Gs cl B b g N j o 0 w) (t : B ≤ w.heap.size) : Calls Tryz.prog 11 #[.pointer (some ⟨b,0,none⟩),.int .i64 now] w (x8s cl B b g N j o w (fun A n c=>.agg #[.slice A n c,.slice none 0 0,.slice none 0 0,.slice none 0 0])):=by
  rcases h with ⟨rfl,_,r,a,n,d,rfl,f⟩ | ⟨rfl,u,x,a,d,at_,q,s,ps,tj,t',m,G⟩
  · refine (x3a b a n d now w f).mono ?_
    rintro e w' ⟨l,rfl⟩;exact ⟨none,0,0,[],rfl,rfl,.inl ⟨rfl,rfl,r,a,n,d,by simp,f.z l⟩,OutsAt.nil _ _ _,⟨[],[],.o0 l,by simp⟩,by simp⟩
  have k:=G.T.again (now:=now) 8;refine (x7x b u x a d at_ q s B w G.K now t k.1).mono ?_;rintro e w' ⟨A,n,y,rfl,X⟩;exact Uj (v:=fun A n c=>.agg #[.slice A n c,.slice none 0 0,.slice none 0 0,.slice none 0 0]) G X (G.I.again 8) k.2 G.D.again
theorem EncL.at_ {o : List Oc} {ps : List Pk} {j : Nat} {x : Oc} (E : EncL o ps) (d : o[j]? = some x) : ∃ p,ps[j]? = some p ∧ x.l = Fu p ∧ RightP p ∧ x.cl = false:=by
  have a : (o.map (·.l))[j]? = some x.l:=by rw [List.getElem?_map,d]; rfl
  rw [E.enc,List.getElem?_map] at a
  cases hp : ps[j]? with
  | none=>rw [hp] at a; cases a
  | some p=>
    rw [hp] at a;exact ⟨p,rfl,by simpa using a.symm,E.right p (List.mem_of_getElem? hp),E.cl x (List.mem_of_getElem? d)⟩
theorem Gs.pk {cl : Bool} {N : Int} {d j : Nat} {o : List Oc} {x : Oc} (h : Gs cl B b g N d o j w) (a : o[j]? = some x) (t : x.cl = false) : ∃ p,x.l = Fu p ∧ RightP p:=by
  rcases h with ⟨_,rfl,r,f,n,u,rfl,v⟩ | ⟨_,z,sp,f,u,at_,y,s,ps,tj,t',m,G⟩
  · obtain rfl : Dj = x := by simpa using a
    cases t
  obtain ⟨p,_,k,q,_⟩:=G.EN.at_ a
  exact ⟨p,k,q⟩
theorem y1y {A : Option Addr} {d : Nat} {l : List UInt8} (e : l = Fu p) (o : RightP p) (h : B ≤ w.heap.size) (f : Bs [5] B w A l.length l) (k : l.length ≤ d) (n : l.length ≤ 1000000) : Calls Tryz.prog 12 #[.slice A l.length d] w (fun e w'=>Kept [] w w' ∧ ∃ s,e = .returned (.tuple #[.agg (p.cells s),.int .i64 l.length,.int .i64 0]) ∧ PkS B w' p s ∧ p.Len):=by
  refine (U2 l A d w B h f k n p o e).mono ?_;rintro e w' ⟨m,j,s,rfl,a⟩;exact ⟨m,s,rfl,⟨a.pay.up (by simp) (Nat.le_refl _),a.wp.up (by simp) (Nat.le_refl _),a.pass.up (by simp) (Nat.le_refl _),Cs.oO a.subs (by simp),Cs.oO a.codes (by simp)⟩,j⟩
theorem x8t {cl : Bool} {N : Int} {f j : Nat} {o : List Oc} {x : Oc} (h : Gs cl B b g N f o j w) (hx : o[j]? = some x) (hc : x.cl = false) (v : x.l = Fu p) (u : RightP p) (PS : PkS B w p ad) (hL : p.Len) (hn : f + j ≤ 1000000) : Calls Tryz.prog 13 #[.pointer (some ⟨g,0,none⟩),.agg (p.cells ad)] w (fun e w'=>e = .returned (.bool true) ∧ Gs cl B b g N f o (j + 1) w' ∧ FmM B w w'):=by
  rcases h with ⟨_,rfl,r,z,n,sc,rfl,BB⟩ | ⟨e0,lp,sp,z,sc,at_,cn,s,y,tj,t',m,G⟩
  · obtain rfl : Dj = x := by simpa using hx
    cases hc
  obtain ⟨q,hq,h1,h2,_⟩:=G.EN.at_ hx
  obtain rfl : q = p:=x9m h2 u (h1.symm.trans v);have t : 0 ≤ q.id ∧ q.id ≤ 65535:=x3g u;have aa:=G.n;refine (Kt q ad (G0 t.1 (by omega)) B g tj m w G.TR (by omega) PS hL).mono ?_;rintro e w' ⟨rfl,m',T',ah,hk,k,_⟩;have hm:=x8p G.TR hk
  have hd : y.drop j = q :: y.drop (j + 1):=by
    obtain ⟨hj,e1⟩:=List.getElem?_eq_some_iff.1 hq;rw [List.drop_eq_getElem_cons hj,e1]
  have a:=G.R;rw [hd] at a;unfold Fz at a;have d:=G.K.maps
  split at a
  · rename_i ht
    rw [ht];exact ⟨rfl,.inr ⟨e0,lp,sp,z,sc,at_,cn,s,y,_,t',m',⟨G.K.modM hm (by decide) (Aps.apt G.ap).s.1 (Aps.apt G.ap).s.2,G.I,G.T,G.L,G.D,G.EN,a,T',G.NS.outT (Wm u),by omega,Apt.post G.ap k d.1 d.2⟩⟩,⟨_,_,hm,by decide⟩⟩
  cases a
theorem Gs.next {cl : Bool} {j : Nat} {o : List Oc} (h : Gs cl B b g (2 * i + 2) (40 * i + 1) o j w) (q : j = o.length) (ho : o.length ≤ 30) : LoopS B b g (i + 1) w:=by
  rcases h with ⟨_,rfl,r,a,n,f,rfl,y⟩ | ⟨_,t,v,a,f,at_,l,s,u,k,x,m,G⟩
  · simp at q
  have z : u.length = o.length:=by have:=congrArg List.length G.EN.enc; simpa using this.symm
  have d:=G.R;rw [List.drop_eq_nil_of_le (by omega)] at d;obtain rfl : k = x:=Option.some.inj d;have hn:=G.n;exact ⟨k,m,G.TR,G.NS,by omega,.inr ⟨by omega,t,v,a,f,at_,l,s,G.K,G.I,G.T,G.L,G.D.up (by omega),G.ap⟩⟩
end
end Go.Proofs.YtkdeedhjkjffpaaGreat
namespace Go.Proofs.YtkdeedhjkjffpaaGreat
open Go.RowKit Go.Hub Go.Lib
theorem Z63 : (Tryz.prog.info? 41).map (·.size) = some 30:=by kernel_rfl
theorem Z73 : (Tryz.prog.info? 61).map (·.size) = some 4:=by kernel_rfl
theorem Z83  : Tryz.prog.built 29 [] = some #[(.pointer none),(.pointer none),(.pointer none),(.pointer none),(.pointer none),(.pointer none),(.pointer none),(.pointer none),(.pointer none),(.pointer none),(.pointer none),(.pointer none),(.pointer none),(.pointer none),(.pointer none),(.pointer none),(.slice none 0 0)]:=by kernel_rfl
theorem Z93  : Tryz.prog.built 56 [] = some #[(.slice none 0 0),(.slice none 0 0),(.slice none 0 0),(.slice none 0 0)]:=by kernel_rfl
structure Wd where
  inn : Bool
  k : Int
  a : Int
  b : Int
  c : Int
  p : Pk
  x : List UInt8
structure WdA where
  d : Wd
  s : Ad
  A : Option Addr
  c : Nat
def wdc (x : WdA) : List Value:=[.bool x.d.inn,.int .u8 x.d.k,.int .u8 x.d.a,.int .u8 x.d.b,.int .u8 x.d.c] ++ ((x.d.p.cells x.s).toList ++ [.slice x.A x.d.x.length x.c])
structure y1z (w : World) (x : WdA) : Prop where
  k1 : 0 ≤ x.d.k ∧ x.d.k < 256
  a1 : 0 ≤ x.d.a ∧ x.d.a < 256
  b1 : 0 ≤ x.d.b ∧ x.d.b < 256
  c1 : 0 ≤ x.d.c ∧ x.d.c < 256
  pk : PkS w.heap.size w x.d.p x.s
  xs : Bs [5,79,3] w.heap.size w x.A x.d.x.length x.d.x
  xc : x.d.x.length ≤ x.c
theorem Je {w : World} {A : Option Addr} {l : List WdA} (h : Sl w A l.length 30 (l.flatMap wdc)) {b a k : Nat} {x : WdA} {z : Int} (d : A = some ⟨b,a,none⟩) (c : l[k]? = some x) (g : z.toNat = k) (j : Nat) {v : Value} (f : (wdc x)[j]? = some v) : w.cell? ⟨b,a + z.toNat * 30 + j,none⟩ = some v:=by
  have i:=(List.getElem?_eq_some_iff.1 c).1;rw [g,Nat.add_assoc];exact h.cell (by omega) d (Fk wdc 30 (fun _=>rfl) l k x c j v f)
section
variable {w W W' : World} {A : Option Addr} {n size : Nat} {xs : List Value}
theorem _root_.Go.RowKit.Below.kpt (h : Below w.heap.size w W) (k : Kept [] W W') : Below w.heap.size w W':=⟨k.os.trans h.os,k.tape.trans h.tape,k.output.trans h.output,Nat.le_trans h.size k.size,fun x a=>(k.block x (Nat.lt_of_lt_of_le a h.size) (by simp)).trans (h.block x a)⟩
theorem _root_.Go.RowKit.Below.trans9 {B : Nat} (h : Below B w W) (k : Below B W W') : Below B w W':=⟨k.os.trans h.os,k.tape.trans h.tape,k.output.trans h.output,Nat.le_trans h.size k.size,fun x a=>(k.block x a).trans (h.block x a)⟩
theorem _root_.Go.Hub.Sl.blw (h : Sl w A n size xs) (d : Below w.heap.size w W) : Sl W A n size xs:=⟨h.1,fun i=>by
  obtain ⟨b,c,e,f,g⟩:=h.2 i
  exact ⟨b,c,e,Nat.lt_of_lt_of_le f d.size,fun j u k=>(World.cell?_of_block (w:=w) (a:=⟨b,c + j,none⟩) (d.block b f)).trans (g j u k)⟩⟩
theorem y5s {E g : List TypeId} {l : List UInt8} (h : Bs E w.heap.size w A n l) (f : Below w.heap.size w W) : Bs g w.heap.size W A n l:=⟨h.1,fun k=>by
  obtain ⟨b,c,e,d,_,i⟩:=h.2 k
  exact ⟨b,c,e,Nat.lt_of_lt_of_le d f.size,.inl d,fun j u m=>(World.cell?_of_block (w:=w) (a:=⟨b,c + j,none⟩) (f.block b d)).trans (i j u m)⟩⟩
theorem y5t {f : Option Addr} {l x : List UInt8} {E : List TypeId} (h : Bs [5,79,3] w.heap.size W A l.length l) (p : l = x ∨ l = []) (j : A = f ∨ l = []) (q : Bs E w.heap.size w f x.length x) (o : x.length ≤ 1000000000) : Pay w.heap.size W A l:=by
  rcases p with rfl | rfl
  · rcases j with rfl | rfl
    · refine ⟨⟨rfl, fun g => ?_⟩, o⟩
      obtain ⟨b,d,e,k,_,m⟩:=h.2 g;obtain ⟨r,i,a,c,_⟩:=q.2 g;rw [e] at a
      injection a with a
      injection a with e1
      subst e1;exact ⟨b,d,e,k,.inl c,m⟩
    exact Pay.nil _ _ _
  exact Pay.nil _ _ _
end
theorem x3i (k a b c : Int) (x : List UInt8) : (Db k a b c x).pay = x ∨ (Db k a b c x).pay = []:=by
  unfold Db
  split
  · unfold Uh
    split <;> exact .inl rfl
  repeat' split
  all_goals first | exact .inr rfl | exact .inr (M9 _ _ _ _)
abbrev SP4 (B n0 : Nat) (p : Pk) (ad : Ad) (W : World) : Prop:=PkS B W p ad ∧ ∀ y,ad.ua.map (·.block) = some y → n0 ≤ y ∧ Typ W y [5,79,3]
theorem SP4.st {B f g : Nat} {p : Pk} {ad : Ad} {W c : World} {cs : Array Value} (h : SP4 B f p ad W) (d : Kept [g] W c) (b : Blk W g 39 cs) (j : B ≤ g) : SP4 B f p ad c:=
  ⟨h.1.kT d (NoPk.blk b (by decide)) (by simpa using j),fun y a=>⟨(h.2 y a).1,(h.2 y a).2.of_eq (d.block y (by obtain ⟨cs,t,l,i,_⟩:=(h.2 y a).2; exact (Array.getElem?_eq_some_iff.1 i).1) (fun k=>by
    obtain rfl:=List.mem_singleton.1 k
    exact b.not_typ (by decide) (h.2 y a).2))⟩⟩
section
variable {c cl : Bool} {B b g i gp nm j Nm : Nat} {w W W' : World} {o : List Oc} {Am : Option Addr} {N M : Int}
theorem y5u (h : LoopS B b g i w) (d : Kept [] w W) (a : w.heap.size ≤ gp) (hi : i = 0) : x8q c B b g i (Ui c) s0 gp W:=by
  subst hi;exact h.first d a
theorem x8u (h : nm = 0 ∨ (cl = false ∧ nm = 1 ∧ ∃ ms mA mc,Sl W Am 1 4 (mcell ⟨ms,mA,mc⟩) ∧ Pay B W mA ms.pay ∧ MOk ms)) (a : Kept [] W W') : nm = 0 ∨ (cl = false ∧ nm = 1 ∧ ∃ ms mA mc,Sl W' Am 1 4 (mcell ⟨ms,mA,mc⟩) ∧ Pay B W' mA ms.pay ∧ MOk ms):=by
  rcases h with h | ⟨d,f,ms,mA,mc,k,l,m⟩
  · exact .inl h
  exact .inr ⟨d,f,ms,mA,mc,k.kept a,l.k0 a,m⟩
theorem Gs.up (h : Gs cl B b g N Nm o j w) (f : N ≤ M) : Gs cl B b g M Nm o j w:=by
  rcases h with h | ⟨e,k,q,a,p,at_,d,s,l,t,r,m,G⟩
  · exact .inl h
  exact .inr ⟨e,k,q,a,p,at_,d,s,l,t,r,m,⟨G.K,G.I,G.T,G.L,G.D.up f,G.EN,G.R,G.TR,G.NS,G.n,G.ap⟩⟩
theorem Uk {A : Option Addr} {k b a : Nat} {x : Oc} {c : Nat} (O : OutsAt B w W A c o) (f : A = some ⟨b,a,none⟩) (d : o[k]? = some x) (j : Nat) {v : Value} (h : (ocell x)[j]? = some v) : W.cell? ⟨b,a + (k : Int).toNat * 4 + j,none⟩ = some v:=by
  have l:=(List.getElem?_eq_some_iff.1 d).1;rw [Int.toNat_natCast,Nat.add_assoc];exact O.fr.sl.cell (by omega) f (Fk ocell 4 (fun _=>rfl) o k x d j v h)
end
theorem Ye (l : List WdA) (Al : Option Addr) (ao : Nat) (c : Bool) (w : World) (SL : Sl w Al l.length 30 (l.flatMap wdc)) (hW : ∀ d ∈ l,y1z w d) : Calls Tryz.prog 3 #[.slice Al l.length ao,.bool c] w (fun e w'=>e = .returned (.bool true) ∧ Below w.heap.size w w'):=by
 have HK : Kept [] w w:=Kept.refl [] w;refine Bw Tryz.func3 Tryz.ntmps3 fun _ f=>?_;refine pr f fun _ f=>?_;refine wp_seq_k fun _ k1=>C.sk fun _ k2=>?_;refine L.cl f (B5 Tryz.call4 (y6d f)) (x2o _) ?_;rintro e w1 ⟨q1,rfl⟩;refine ⟨_,rfl,fun _ f=>?_⟩;have ey:=q1.size;replace HK:=HK.z q1;clear q1;refine L.s f fun _ f=>?_;have f:=f.as (i:=18) (v':=.bool false) rfl (by rfl);refine wn k2 ?_;refine C.cF f rfl ?_;refine wp_skip (k1 _ _ ?_);refine wp_seq_k fun _ k1=>?_;refine pr f fun _ f=>?_;refine f.sD 21 rfl (fun h0 f=>?_) (fun h0 f=>?_)
 ·refine C.cT f rfl ?_;refine rt f ?_;exact ⟨rfl,HK.below0⟩
 have en : (l.length : Int) ≤ 40:=by omega
 refine C.cF f rfl ?_;refine wp_skip (k1 _ _ ?_);refine C.sk fun _ k1=>?_;refine L.bd f (Z83) fun _ f=>?_;refine L.box f Aa (by decide) rfl rfl fun _ w2 g1 N f=>?_;obtain ⟨c3,q1,cq,et,ez⟩:=N.al;have cc:=HK.lo cq;replace HK:=HK.z q1;clear N q1;refine pe f k1 fun _ f=>?_;refine wp_seq_k fun _ k1=>?_;obtain ⟨b,rfl⟩ : ∃ x,x = g1:=⟨_,rfl⟩;have BB : Blk w2 b 29 (Ic none none 0 0):=c3;have b9 : w.heap.size ≤ b:=cc;clear c3;refine C.region ?_;refine L.cl f (Dt f Tryz.call5) (x0c w.heap.size true _ HK.size) ?_;rintro e w3 ⟨g,m0,rfl,T,fm,q1⟩;refine ⟨_,rfl,fun _ f=>?_⟩;have f0:=q1.size;replace HK:=HK.z q1;replace BB:=BB.z q1;clear q1;refine pe f k1 fun _ f=>?_;refine C.sk fun _ k1=>?_;refine L.s f fun _ f=>?_;refine L.cl f (Ji f Tryz.call6) (x8a b 0 _ BB) ?_;rintro e w4 ⟨lp,rfl,q1,bz,BL,dj⟩;have cj:=Nat.le_trans HK.size dj;replace T:=TrIn.mod0 T (Mod.o1 (M:=[]) (B:=w.heap.size) q1 BB b9) (by decide) ⟨by simp,by simp⟩;refine ⟨_,rfl,fun _ f=>?_⟩;have f1:=q1.size;replace HK:=HK.nn q1 b9;clear q1;refine wn k1 ?_;refine wp_seq_k fun _ k1=>?_;refine wp_seq_k fun _ k2=>?_;have LS : LoopS w.heap.size b g 0 w4:=⟨_,m0,T,(fun x hx=>by cases hx),by omega,.inl ⟨rfl,rfl,lp,_,bz,BL,b9,cj⟩⟩;have v:=HK.below0;clear HK T bz BL;refine Ib f k2 fun _ f=>?_;refine wp_block ?_
 refine C.loop (fun gk a W=>∃ i : Nat,i + gk = l.length + 1 ∧ Below w.heap.size w W ∧ LoopS w.heap.size b g i W ∧ Fr 153 a [(0,.slice Al l.length ao),(1,.bool c),(5,.pointer (some ⟨b,0,none⟩)),(6,.pointer (some ⟨g,0,none⟩)),(7,.int .i64 i)]) ((l.length + 1)) ?_ ?_
 ·exact ⟨0,by omega,v,LS,f.sub (sx (sx (sx (sx (sx sn)))))⟩
 intro ce _ w5 hI ea bb;obtain ⟨i,hi,v,LS,m⟩:=hI
 try clear f
 refine wp_seq_k fun _ k2=>?_;refine pr m fun _ f=>?_;refine C.sp f (fun h1 f=>?_) (fun h1 f=>?_)
 ·refine wp_skip (k2 _ _ ?_);have m:=f.pk [0,1,5,6,7,27,28,29,30];refine wp_seq_k fun _ k2=>?_;refine wp_block ?_;refine wp_seq_k fun _ k3=>?_;have ar:=v.size;have HX:=Kept.refl [] w5;refine C.region ?_;refine L.s m fun _ m=>?_;refine L.bd m (Z72 _ _ _ _) fun _ m=>?_;refine L.alloc m Aa (by decide) (z:=(.agg #[(.int .i64 0),(.bool false),(.bool false),(.int .i64 0),(.int .i64 0),(.string ⟨#[]⟩),(.slice none 0 0),(.int .i64 0),(.string ⟨#[]⟩),(.bool false),(.int .i64 0),(.bool false),(.string ⟨#[]⟩),(.slice none 0 0),(.int .i64 0),(.bool false),(.bool false),(.bool false),(.string ⟨#[]⟩),(.slice none 0 0),(.bool false),(.int .i64 0),(.slice none 0 0),(.slice none 0 0)])) (fun _=>by kernel_rfl) rfl fun _ w6 g5 N m=>?_;obtain ⟨ay,q1,cr,eu,f2⟩:=N.al;have b4:=HX.lo cr;replace HX:=HX.trans q1 (by simp);clear N q1;refine L.storeR m Aa Z8 rfl rfl rfl ay rfl rfl fun _ w7 m d8 bj=>?_;have f3:=bj.size;replace HX:=HX.nn bj b4;replace ay:=d8;clear bj;refine wn k3 ?_;obtain ⟨az,af⟩ : ∃ J : Act → World → Prop,J = fun a W=>∃ (p : Pk) (ad : Ad) (gp : Nat),Below w.heap.size w W ∧ x8q c w.heap.size b g i p ad gp W ∧ Blk W gp 39 (p.cells ad) ∧ Fr 153 a [(0,.slice Al l.length ao),(1,.bool c),(5,.pointer (some ⟨b,0,none⟩)),(6,.pointer (some ⟨g,0,none⟩)),(7,.int .i64 i),(8,.pointer (some ⟨gp,0,none⟩))]:=⟨_,rfl⟩;refine C.cut az ?_ ?_
  ·skip;refine wp_seq_k fun _ k3=>?_;obtain ⟨gp,rfl⟩ : ∃ x,x = g5:=⟨_,rfl⟩;have BP : Blk w7 gp 39 (Wc c):=ay;have ae : w5.heap.size ≤ gp:=b4;clear ay;refine Ib m k3 fun _ h=>?_;refine h.sD 36 rfl (fun h2 h=>?_) (fun h2 h=>?_)
   ·have dh : 0 < i:=by omega
    obtain ⟨x,hx⟩:=Bn l (i - 1) (by omega);obtain ⟨bw,ow,ah⟩:=SL.addr (by omega);obtain ⟨dt,du,cv,cw,fv,cx,fu⟩:=hW x (List.mem_of_getElem? hx);have hz : ((i : Int) - 1).toNat = i - 1:=by omega
    refine C.cT h rfl ?_;refine wp_seq_k fun _ k3=>C.sk fun _ k4=>?_;refine L.s h fun _ r=>?_;(iterate 3 refine L.s r fun _ r=>?_);refine L.va r (E.fa 29 r Tryz.underlying41 rfl Z3) fun _ r=>?_;refine L.lo r (Je (Sl.blw SL (v.kpt HX)) ah hx hz 29 rfl) fun _ r=>?_;refine pe r k4 fun _ r=>?_;refine C.sp r (fun h3 r=>?_) (fun h3 r=>?_)
    ·refine rt r ?_;exact ⟨rfl,v.kpt HX⟩
    have er:=h3;refine wp_skip (k3 _ _ ?_);have a6:=dk w7 1;refine R.begin (S:=fun W=>(Kept [] w5 W)) (by kernel_rfl) (HX.trans a6 (by simp)) ?_;obtain ⟨w8,b5⟩ : ∃ W,W = w7.drewN 1:=⟨_,rfl⟩;rw [← b5] at a6 ⊢;clear b5;have f4:=a6.size;replace HX:=HX.trans a6 (by simp);replace BP:=BP.z a6;clear a6;refine rq [0,1,2,3] r fun _ r=>?_;refine R.p 4 r rfl HX (E.fa 1 r Tryz.underlying41 rfl Za) fun _ r=>?_;refine R.t 5 r rfl HX (fun W hW=>(E.load r U5 rfl rfl ((Je (Sl.blw SL (v.kpt hW)) ah hx hz 1 rfl)))) fun _ r=>?_;refine rq [6,7,8,9] r fun _ r=>?_;refine R.p 10 r rfl HX (E.fa 2 r Tryz.underlying41 rfl Za) fun _ r=>?_;refine R.t 11 r rfl HX (fun W hW=>(E.load r U5 rfl rfl ((Je (Sl.blw SL (v.kpt hW)) ah hx hz 2 rfl)))) fun _ r=>?_;refine rq [12,13,14,15] r fun _ r=>?_;refine R.p 16 r rfl HX (E.fa 3 r Tryz.underlying41 rfl Za) fun _ r=>?_;refine R.t 17 r rfl HX (fun W hW=>(E.load r U5 rfl rfl ((Je (Sl.blw SL (v.kpt hW)) ah hx hz 3 rfl)))) fun _ r=>?_;refine rq [18,19,20,21] r fun _ r=>?_;refine R.p 22 r rfl HX (E.fa 4 r Tryz.underlying41 rfl Za) fun _ r=>?_;refine R.t 23 r rfl HX (fun W hW=>(E.load r U5 rfl rfl ((Je (Sl.blw SL (v.kpt hW)) ah hx hz 4 rfl)))) fun _ r=>?_;refine rq [24,25,26,27] r fun _ r=>?_
    refine R.p 28 r rfl HX (E.fa 29 r Tryz.underlying41 rfl Z3) fun _ r=>?_;refine R.t 29 r rfl HX (fun W hW=>(E.load r U33 rfl rfl ((Je (Sl.blw SL (v.kpt hW)) ah hx hz 29 rfl)))) fun _ r=>?_;refine R.cl 30 r rfl (B5 Tryz.call7 (Yh r rfl rfl rfl rfl rfl)) (x8i w.heap.size x.d.k x.d.a x.d.b x.d.c x.d.x x.A x.c _ (y5s cx (v.kpt HX)) dt du cv cw) ?_;rintro e w9 ⟨ad,rfl,q1,PS,bh,dn⟩;have SP : SP4 w.heap.size w5.heap.size (Db x.d.k x.d.a x.d.b x.d.c x.d.x) ad w9:=⟨PS,fun y hy=>⟨Nat.le_trans HX.size (bh y hy).1,(bh y hy).2⟩⟩;clear PS bh;have cy:=q1.size;replace HX:=HX.trans q1 (by simp);replace BP:=BP.z q1;refine ⟨_,rfl,HX,fun _ r=>?_⟩;clear q1;refine R.on 31 ?_;refine OS.storeR r rfl Aa Z8 rfl rfl rfl BP rfl rfl (fun _ hk=>HX.nn hk ae) fun _ cz r c7 ag=>?_;have bp:=ag.size;replace HX:=HX.nn ag ae;replace SP:=SP.st ag BP (by omega);replace BP:=c7;clear ag;exact R.done (by kernel_rfl) (jK az (by rw [af]; exact ⟨Db x.d.k x.d.a x.d.b x.d.c x.d.x,ad,gp,v.kpt HX,LS.pre HX dh ae (y1q (by omega) cv.1 cw.1) SP.1 SP.2 (y5t SP.1.pay (x3i _ _ _ _ _) dn cx (by omega)),BP,r.sub (sx (sx (sx (sx (sx (sx sn))))))⟩))
   refine C.cF h rfl ?_;exact wp_skip (jK az (by rw [af]; exact ⟨Ui c,s0,gp,v.kpt HX,y5u LS HX ae (by omega),BP,h.sub (sx (sx (sx (sx (sx (sx sn))))))⟩))
  intro _ w8 hj;rw [af] at hj;clear af az;obtain ⟨p,ad,gp,v,PR,BP,h⟩:=hj
  try clear m
  have ar:=v.size;refine C.sk fun _ k3=>?_;refine L.s h fun _ m=>?_;refine L.s m fun _ m=>?_;refine L.cl m (Bm m Tryz.call8) (y1x PR (by omega) BP v.size) ?_;rintro e w9 ⟨rfl,P2,q1,f8⟩;replace v:=v.trans9 q1;refine ⟨_,rfl,fun _ m=>?_⟩;have cy:=q1.size;refine wn k3 (C.sk fun _ k3=>?_);(iterate 3 refine L.s m fun _ m=>?_);refine L.bd m (Z93) fun _ m=>?_;refine L.cl m (B5 Tryz.call9 (Yh m rfl rfl rfl rfl rfl)) (Yb P2 (by omega) v.size) ?_;rintro e cz ⟨b8,A,n,cA,Am,nm,cm,D1,n1,c1,D2,n2,c2,o,rfl,rfl,GS,OU,q1,ho,ai⟩;replace OU:=OU.lw v.size;replace v:=v.trans9 q1;have co:=v.size;have HX:=Kept.refl [] cz;refine ⟨_,rfl,fun _ m=>?_⟩;have bp:=q1.size;(iterate 3 refine L.s m fun _ m=>?_);refine L.alloc m Aa (by decide) (z:=Q9) (fun _=>by kernel_rfl) rfl fun _ fx db N m=>?_;obtain ⟨aa,q1,bk,dq,dv⟩:=N.al;have ap:=HX.lo bk;replace HX:=HX.trans q1 (by simp);clear N q1;refine L.storeR m Aa Gh rfl rfl rfl aa rfl rfl fun _ e1 m c8 av=>?_;have dw:=av.size;replace HX:=HX.nn av ap;replace aa:=c8;clear av;refine pe m k3 fun _ m=>?_;refine wp_seq_k fun _ k3=>?_;refine wp_seq_k fun _ k4=>?_;obtain ⟨ge,rfl⟩ : ∃ x,x = db:=⟨_,rfl⟩;have BE : Blk e1 ge 48 #[.slice A o.length cA,.slice Am nm cm,.slice D1 n1 c1,.slice D2 n2 c2]:=aa
  have ej : w.heap.size ≤ ge:=Nat.le_trans co ap;replace v:=v.kpt HX;replace GS:=GS.k0 HX;replace OU:=OU.k0 HX;have ai:=x8u ai HX;have eo : nm ≤ 1:=by rcases ai with h9 | ⟨_,h9,_⟩ <;> omega
  clear aa HX;have ar:=v.size;refine C.region ?_;(iterate 2 refine L.s m fun _ m=>?_);have m:=m.as (i:=88) (v':=.bool false) rfl (by rfl);refine wn k4 ?_;refine C.cF m rfl ?_;refine wp_skip (k3 _ _ ?_);refine pr m fun _ m=>?_;refine wp_seq_k fun _ k3=>?_;refine pr m fun _ m=>?_;refine wp_block ?_;refine C.loop (fun gk a W=>∃ (q : Nat) (o : List Oc) (A : Option Addr) (cA : Nat),q + gk = nm ∧ Below w.heap.size w W ∧ Gs b8 w.heap.size b g (2 * i + 1 + q) (40 * i + 1) o 0 W ∧ OutsAt w.heap.size w W A cA o ∧ o.length ≤ 10 + 10 * q ∧ (∃ A0 n0 c0,Blk W ge 48 #[.slice A0 n0 c0,.slice Am nm cm,.slice D1 n1 c1,.slice D2 n2 c2]) ∧ (q = 0 → (nm = 0 ∨ (b8 = false ∧ nm = 1 ∧ ∃ ms mA mc,Sl W Am 1 4 (mcell ⟨ms,mA,mc⟩) ∧ Pay w.heap.size W mA ms.pay ∧ MOk ms))) ∧ Fr 153 a [(0,.slice Al l.length ao),(1,.bool c),(5,.pointer (some ⟨b,0,none⟩)),(6,.pointer (some ⟨g,0,none⟩)),(7,.int .i64 i),(9,.pointer (some ⟨ge,0,none⟩)),(11,.slice A o.length cA),(12,.int .i64 q)]) (nm) ?_ ?_
  ·exact ⟨0,o,A,cA,by omega,v,GS.up (by omega),OU,by omega,⟨_,_,_,BE⟩,fun _=>ai,m.sub (sr rfl (sr rfl (sr rfl (sr rfl (sr rfl (sr rfl (sr rfl (sr rfl sn))))))))⟩
  intro cf _ fy hI eb bc;obtain ⟨q,o,A,cA,hq,v,GS,OU,ho,⟨A0,n0,c0,BE⟩,ai,h⟩:=hI
  try clear m
  have ar:=v.size;refine wp_seq_k fun _ k4=>?_;refine pr h fun _ m=>?_;refine m.sD 95 rfl (fun h4 m=>?_) (fun h4 m=>?_)
  ·have dp : q = 0:=by omega
   subst dp;obtain ⟨rfl,rfl,ms,mA,mc,SM,d7,dm⟩:=(ai rfl).resolve_left (by omega);obtain ⟨bm,om,df⟩:=SM.addr (by omega);refine C.cT m rfl ?_;refine wp_skip (k4 _ _ ?_);have h:=m.pk [0,1,5,6,7,9,11,12,91,92,93,94,95];refine wp_seq_k fun _ k4=>?_;refine wp_block ?_;refine C.region ?_;(iterate 6 refine L.s h fun _ h=>?_);refine L.va h (E.loadR h U58 rfl Zw rfl ((Sl.row (i:=0) (cs:=mcell ⟨ms,mA,mc⟩) SM (by omega) df (fun j u hu=>by simpa using hu))) rfl) fun _ h=>?_;refine L.s h fun _ h=>?_;refine L.cl h (Ji h Tryz.call10) (Yc (now:=i) GS d7 dm v.size (by omega)) ?_;rintro e bs ⟨A4,n4,c4,o2,rfl,rfl,a4,OV,q1,ck⟩;replace OV:=OV.lw v.size;refine ⟨_,rfl,fun _ h=>?_⟩;have bq:=q1.size;replace v:=v.trans9 (q1.blw v.size);replace OU:=q1.outs OU;replace BE:=q1.blk BE;clear q1;refine L.append h Aa (by decide) U44 Ul rfl rfl rfl rfl (OU.fr.own) (OV.fr.sl) (Dr _) (by unfold maxLen; omega) (by omega) fun _ ax A5 c5 a7 h=>?_;have a2 : Mod [61] [] w.heap.size bs ax:=.of_app a7 OU.fr.own OU.fr.from (by simp);have OW : OutsAt w.heap.size w ax A5 c5 (o ++ o2):=OU.app (Nat.le_refl _) a7 v.size OV.by_;rw [← List.length_append] at h;have br:=a2.size;replace v:=v.trans9 (a2.blw v.size);replace BE:=BE.mod a2 (by decide);replace a4:=a4.mod a2 (by decide);clear a2;refine pe h k4 fun _ h=>?_
   refine C.region ?_;(iterate 3 refine L.s h fun _ h=>?_);refine wpList_nil (bc _ _ (cf - 1) ?_ ?_)
   ·omega
   exact ⟨1,o ++ o2,A5,c5,by omega,v,a4.up (by omega),OW,by rw [List.length_append]; omega,⟨_,_,_,BE⟩,(fun h9=>by omega),h.sub (sr rfl (sr rfl (sr rfl (sr rfl (sr rfl (sr rfl (sr rfl (sr rfl sn))))))))⟩
  refine C.cF m rfl ?_;refine wp_exit (k3 _ _ ?_);refine C.sk fun _ k3=>?_;(iterate 3 refine L.s m fun _ m=>?_);refine L.cl m (Bm m Tryz.call11) (Yd (now:=i) GS v.size) ?_;rintro e bs ⟨A4,n4,c4,o2,rfl,rfl,a4,OV,q1,ck⟩;replace OV:=OV.lw v.size;refine ⟨_,rfl,fun _ m=>?_⟩;have bq:=q1.size;replace v:=v.trans9 (q1.blw v.size);replace OU:=q1.outs OU;clear q1;refine L.va m (E.field m U48 rfl rfl U44 rfl rfl) fun _ m=>?_;refine L.append m Aa (by decide) U44 Ul rfl rfl rfl rfl (OU.fr.own) (OV.fr.sl) (Dr _) (by unfold maxLen; omega) (by omega) fun _ ax A6 c6 a7 m=>?_;have a2 : Mod [61] [] w.heap.size bs ax:=.of_app a7 OU.fr.own OU.fr.from (by simp);have OW : OutsAt w.heap.size w ax A6 c6 (o ++ o2):=OU.app (Nat.le_refl _) a7 v.size OV.by_;rw [← List.length_append] at m;have br:=a2.size;replace v:=v.trans9 (a2.blw v.size);replace a4:=a4.mod a2 (by decide);clear a2;refine pe m k3 fun _ m=>?_;refine wp_seq_k fun _ k3=>?_;obtain ⟨oo,bg⟩ : ∃ oo,oo = o ++ o2:=⟨_,rfl⟩;rw [← bg] at m a4 OW;have fn : oo.length ≤ 30:=by rw [bg,List.length_append]; omega
  have GS:=a4.up (M:=2 * i + 2) (by omega);have OU:=OW;clear a4 OW ck ho;clear bg;refine Ib m k3 fun _ m=>?_;refine wp_block ?_;refine C.loop (fun gk a W=>∃ j : Nat,j + gk = oo.length ∧ Below w.heap.size w W ∧ Gs b8 w.heap.size b g (2 * i + 2) (40 * i + 1) oo j W ∧ OutsAt w.heap.size w W A6 c6 oo ∧ Fr 153 a [(0,.slice Al l.length ao),(1,.bool c),(5,.pointer (some ⟨b,0,none⟩)),(6,.pointer (some ⟨g,0,none⟩)),(7,.int .i64 i),(11,.slice A6 oo.length c6),(13,.int .i64 j)]) (oo.length) ?_ ?_
  ·exact ⟨0,by omega,v,GS,OU,m.sub (sx (sx (sx (sx (sx (sx (sx sn)))))))⟩
  intro cg _ fz hI ec bf;obtain ⟨j,hj,v,GS,OU,h⟩:=hI
  try clear m
  have ar:=v.size;refine wp_seq_k fun _ k3=>?_;refine pr h fun _ m=>?_;refine m.sD 117 rfl (fun h5 m=>?_) (fun h5 m=>?_)
  ·obtain ⟨x,hx⟩:=Bn oo j (by omega);obtain ⟨bo,fw,hA⟩:=OU.fr.sl.addr (by omega);refine C.cT m rfl ?_;refine wp_skip (k3 _ _ ?_);have h:=m.pk [0,1,5,6,7,11,13,114,115,116,117];refine wp_seq_k fun _ k3=>?_;refine wp_block ?_;refine wp_seq_k fun _ k4=>C.sk fun _ k5=>?_;(iterate 3 refine L.s h fun _ h=>?_);refine L.va h (E.fa 3 h Tryz.underlying61 rfl Z1) fun _ h=>?_;refine L.lo h (Uk OU hA hx 3 rfl) fun _ h=>?_;refine wn k5 ?_;refine h.split 124 rfl (fun h6 h=>?_) (fun h6 h=>?_)
   ·refine C.cT h rfl ?_;refine rt h ?_;exact ⟨rfl,v⟩
   have ci : x.cl = false:=by simpa using h6
   refine C.cF h rfl ?_;refine wp_skip (k4 _ _ ?_);refine C.sk fun _ k4=>?_;(iterate 3 refine L.s h fun _ h=>?_);refine L.va h (E.fa 2 h Tryz.underlying61 rfl Z3) fun _ h=>?_;refine L.lo h (Uk OU hA hx 2 rfl) fun _ h=>?_;obtain ⟨p,cp,cn⟩:=GS.pk hx ci;obtain ⟨d9,dg,dl⟩:=OU.by_ x (List.mem_of_getElem? hx);refine L.cl h (Dt h Tryz.call12) (y1y cp cn v.size d9 dg dl) ?_;rintro e e2 ⟨q1,ad,rfl,PS,hL⟩;refine ⟨_,rfl,fun _ h=>?_⟩;have dx:=q1.size;replace v:=v.kpt q1;replace GS:=GS.k0 q1;replace OU:=OU.k0 q1;clear q1;have co:=v.size;have HX:=Kept.refl [] e2;(iterate 4 refine L.s h fun _ h=>?_);refine L.alloc h Aa (by decide) (z:=(.agg #[(.int .i64 0),(.bool false),(.bool false),(.int .i64 0),(.int .i64 0),(.string ⟨#[]⟩),(.slice none 0 0),(.int .i64 0),(.string ⟨#[]⟩),(.bool false),(.int .i64 0),(.bool false),(.string ⟨#[]⟩),(.slice none 0 0),(.int .i64 0),(.bool false),(.bool false),(.bool false),(.string ⟨#[]⟩),(.slice none 0 0),(.bool false),(.int .i64 0),(.slice none 0 0),(.slice none 0 0)])) (fun _=>by kernel_rfl) rfl fun _ g0 dd N h=>?_;obtain ⟨ab,q1,bl,dr,dy⟩:=N.al;have ba:=HX.lo bl;replace HX:=HX.trans q1 (by simp);clear N q1;refine L.storeR h Aa Z8 rfl rfl rfl ab rfl rfl fun _ e3 h c9 aw=>?_;have dz:=aw.size;replace HX:=HX.nn aw ba;replace ab:=c9
   clear aw;refine pe h k4 fun _ h=>?_;refine wp_seq_k fun _ k4=>?_;obtain ⟨dc,rfl⟩ : ∃ x,x = dd:=⟨_,rfl⟩;have f7 : Blk e3 dc 39 (p.cells ad):=ab;replace v:=v.kpt HX;replace GS:=GS.k0 HX;replace OU:=OU.k0 HX;replace PS:=PkS.k0 PS HX;clear ab HX;have ar:=v.size;refine C.region ?_;(iterate 2 refine L.s h fun _ h=>?_);have h:=h.as (i:=136) (v':=.bool false) rfl (by rfl);(iterate 5 refine L.s h fun _ h=>?_);refine L.va h (E.fa 2 h Tryz.underlying61 rfl Z3) (hw:=h.y) fun _ h=>?_;refine L.lo h (Uk OU hA hx 2 rfl) fun _ h=>?_;(iterate 2 refine L.s h fun _ h=>?_);have h:=h.as (i:=145) (v':=.bool false) rfl (by simp);(iterate 4 refine L.s h fun _ h=>?_);refine L.cl h (Bm h Tryz.call13) (x8t GS hx ci cp cn PS hL (by omega)) ?_ (hw:=h.y);rintro e g3 ⟨rfl,a4,q1⟩;refine ⟨_,rfl,fun _ h=>?_⟩;have e0:=q1.size;replace v:=v.trans9 (q1.blw v.size);replace OU:=q1.outs OU;clear q1;refine pe h k4 fun _ h=>?_;refine C.cF h rfl ?_;refine wp_skip (k3 _ _ ?_);refine C.region ?_;(iterate 3 refine L.s h fun _ h=>?_);refine wpList_nil (bf _ _ (cg - 1) ?_ ?_)
   ·omega
   exact ⟨j + 1,by omega,v,a4,OU,by simpa using h.sub (sx (sx (sx (sx (sx (sx (sx sn)))))))⟩
  refine C.cF m rfl ?_;refine wp_exit (k2 _ _ ?_);refine C.region ?_;(iterate 3 refine L.s m fun _ m=>?_);refine wpList_nil (bb _ _ (ce - 1) ?_ ?_)
  ·omega
  exact ⟨i + 1,by omega,v,GS.next (by omega) (by omega),by simpa using m.sub (sx (sx (sx (sx (sx sn)))))⟩
 refine wp_exit (k1 _ _ ?_);have f:=f.sub sn;refine rt f ?_;exact ⟨rfl,v⟩
end Go.Proofs.YtkdeedhjkjffpaaGreat
namespace Go.Hub
open Go.RowKit Go.ChangeShapes Go.WideShapes Go.Deep
section
variable {H : Type} {enc : TypeId × Value → H} {P : Program} {w : World} {spare : Nat → Bool} {held : Bool}
theorem x0n {b a : Nat} {s : Option Nat} {v : Value} (h : w.cell? ⟨b,a,s⟩ = some v) : s = none:=World.cell?_spot h
theorem Wo {M : Type} {t e size : Nat} {v : Value} {d : DataW H} {p : List MemPlace} {rel : List Value → M → Prop} (aa : P.cellsOf e = size) (a2 : 0 < size) (ht : P.underlying t = some (.slice e))
    (hv : ∃ a len cap,v = .slice a len cap) (h : DataW.Trod enc P w 0 spare held t v d p) (a6 : ∀ n cs y,DataW.trod enc P w 0 spare held n e cs = some y → ∃ m,rel cs m) :
    ∃ A len cap xs ms,v = .slice A len cap ∧ len ≤ cap ∧ cap ≤ maxLen ∧ ms.length = len ∧ Rds w w.heap.size size A len xs ∧ Seq size rel xs ms:=by
  obtain ⟨a,len,cap,rfl⟩:=hv;obtain ⟨ae,hf⟩:=h
  rcases open_slice ht hf with ⟨f,_⟩ | ⟨a',af,ad,m,n,D,Pl,f,_,hl,hm,a9,_,hi⟩
  · simp [Value.cells] at f
    obtain ⟨rfl,rfl,rfl⟩:=f;exact ⟨none,0,0,[],[],rfl,Nat.le_refl _,by simp [maxLen],rfl,Rds.nil _ _ _ _,Seq.nil _ _⟩
  · simp [Value.cells] at f
    obtain ⟨rfl,rfl,rfl⟩:=f;obtain ⟨b,g,s⟩:=a';have ap : len ≤ m:=by rw [a9]; split <;> omega
    have ac : ∀ k,k ≤ len → ∃ xs ms,ms.length = k ∧ Seq size rel xs ms ∧ (0 < k → s = none ∧ b < w.heap.size ∧ ∀ j u,xs[j]? = some u → w.cell? ⟨b,g + j,none⟩ = some u):=by
      intro k
      induction k with
      | zero=>exact fun _=>⟨[],[],rfl,Seq.nil _ _,fun h=>absurd h (by omega)⟩
      | succ k ih=>
        intro hk;obtain ⟨xs,ms,l,o,z⟩:=ih (by omega);obtain ⟨c,hc,ab⟩:=hi k (by omega);rw [aa] at hc;obtain ⟨_,a5,a0⟩:=World.cells?_some hc;obtain ⟨mm,a1⟩:=a6 _ _ _ ab
        have hs : s = none ∧ b < w.heap.size:=by
          rcases Nat.eq_zero_or_pos k with i | i
          · subst i
            have r:=a0 0 a2;have e0 : c[0]? = some (c[0]'(by omega)):=List.getElem?_eq_getElem (by omega);rw [e0,Nat.zero_mul] at r;have x : w.cell? ⟨b,g,s⟩ = some (c[0]'(by omega)):=by simpa [Addr.add] using r
            exact ⟨x0n x,World.block_lt_of_cell? w _ x⟩
          · exact ⟨(z i).1,(z i).2.1⟩
        obtain ⟨rfl,a4⟩:=hs;refine ⟨xs ++ c,ms ++ [mm],by simp [l],o.append (Seq.one a5 a1),fun _=>⟨rfl,a4,fun j u q=>?_⟩⟩
        rcases Nat.lt_or_ge j xs.length with hj | hj
        · rw [List.getElem?_append_left hj] at q
          have a8 : 0 < k:=by
            rcases Nat.eq_zero_or_pos k with i | i
            · have:=o.1; rw [l,i] at this; omega
            · exact i
          exact (z a8).2.2 j u q
        · rw [List.getElem?_append_right hj] at q
          have aq : j - xs.length < c.length:=by
            rcases Nat.lt_or_ge (j - xs.length) c.length with h | h
            · exact h
            · rw [List.getElem?_eq_none h] at q; cases q
          have:=a0 (j - xs.length) (by omega);rw [q,B9,B9] at this;have e1:=o.1;rw [l] at e1;rw [show g + k * size + (j - xs.length) = g + j from by omega] at this;exact this
    obtain ⟨xs,ms,l,o,z⟩:=ac len (Nat.le_refl _);refine ⟨_,len,cap,xs,ms,rfl,hl,hm,l,⟨by rw [o.1,l],fun hp=>?_⟩,o⟩;obtain ⟨rfl,hb,hc⟩:=z hp;exact ⟨b,g,rfl,hb,hc⟩
theorem J2 {t e n : Nat} {cs : List Value} {y : DataW H × List MemPlace} (E : List TypeId) (ht : P.underlying t = some (.slice e)) (he : P.underlying e = some (.int .u8)) (q : P.cellsOf e = 1)
    (h : DataW.trod enc P w 0 spare held n t cs = some y) : ∃ A c l,cs = [.slice A l.length c] ∧ l.length ≤ maxLen ∧ Bs E w.heap.size w A l.length l:=by
  rcases open_ints ht he q h with ⟨rfl,_⟩ | ⟨a,f,p,o,rfl,_,hl,hm,hz,_,r,hw⟩
  · exact ⟨none,0,[],rfl,by simp [maxLen],Bs.nil _ _ _ _⟩
  · have a6 : f ≤ o.length := by rw [hz]; split <;> omega
    have d : ((o.take f).map fun z=>UInt8.ofNat z.toNat).length = f:=by simp; omega
    refine ⟨some a,p,(o.take f).map fun z=>UInt8.ofNat z.toNat,by rw [d],by rw [d]; omega,?_⟩;rw [d];refine ⟨d,fun hp=>?_⟩;obtain ⟨b,m,s⟩:=a;have h0:=r 0 (by omega);have i : w.cell? ⟨b,m,s⟩ = some (.int .u8 (o.getD 0 0)):=by simpa [Addr.add] using h0
    obtain rfl:=x0n i;have k:=World.block_lt_of_cell? w _ i;refine ⟨b,m,rfl,k,.inl k,fun j x u=>?_⟩;simp only [List.getElem?_map,Option.map_eq_some_iff] at u;obtain ⟨z,g,rfl⟩:=u
    have hj : j < f:=by
      rcases Nat.lt_or_ge j f with h | h
      · exact h
      · rw [List.getElem?_take,if_neg (by omega)] at g; cases g
    rw [List.getElem?_take,if_pos hj] at g;have:=r j (by omega);rw [B9] at this;rw [this];have a7:=x3o (hw z (List.mem_of_getElem? g));have v : o.getD j 0 = z:=by simp [List.getD_eq_getElem?_getD,g]
    rw [v];unfold u8;rw [UInt8.toNat_ofNat']
    congr 2
    omega
end
end Go.Hub
namespace Go.Hub
open Go.RowKit Go.ChangeShapes Go.WideShapes Go.Deep
theorem Na {H : Type} {P : Program} {e : TypeId} : ∀ {ds : List (DataW H)} {d : DataW H}, d ∈ ds → ∀ {q : Nat}, q ∈ d.weights P e → q ∈ DataW.weightsAll P e ds
  | a :: r,d,h,q,hq=>by
    simp only [DataW.weightsAll,List.mem_append]
    rcases List.mem_cons.1 h with rfl | h
    · exact .inl hq
    exact .inr (Na h hq)
section
variable {H : Type} {enc : TypeId × Value → H} {P : Program} {w : World} {spare : Nat → Bool} {held : Bool}
theorem x3j {R : Nat} {M : Type} {t e size : Nat} {v : Value} {d : DataW H} {p : List MemPlace} {rel : List Value → M → Prop} (ab : P.cellsOf e = size) (a3 : 0 < size) (ht : P.underlying t = some (.slice e))
    (hv : ∃ a len cap,v = .slice a len cap) (h : DataW.Trod enc P w 0 spare held t v d p) (hz : ∀ k ∈ d.weights P t,k ≤ R) (a7 : ∀ n cs y,DataW.trod enc P w 0 spare held n e cs = some y → (∀ k ∈ y.1.weights P e,k ≤ R) → ∃ m,rel cs m) :
    ∃ A len cap xs ms,v = .slice A len cap ∧ len ≤ cap ∧ cap ≤ maxLen ∧ ms.length = len ∧ Rds w w.heap.size size A len xs ∧ Seq size rel xs ms:=by
  obtain ⟨a,len,cap,rfl⟩:=hv;obtain ⟨af,hf⟩:=h
  rcases open_slice ht hf with ⟨f,_⟩ | ⟨a',ai,ae,m,n,D,Pl,f,_,hl,hm,aa,hx,hi⟩
  · simp [Value.cells] at f
    obtain ⟨rfl,rfl,rfl⟩:=f;exact ⟨none,0,0,[],[],rfl,Nat.le_refl _,by simp [maxLen],rfl,Rds.nil _ _ _ _,Seq.nil _ _⟩
  simp [Value.cells] at f;obtain ⟨rfl,rfl,rfl⟩:=f;obtain ⟨b,g,s⟩:=a';have au : len ≤ m:=by rw [aa]; split <;> omega
  injection hx with hd _
  subst hd;simp only [DataW.weights,ht] at hz
  have ad : ∀ k,k ≤ len → ∃ xs ms,ms.length = k ∧ Seq size rel xs ms ∧ (0 < k → s = none ∧ b < w.heap.size ∧ ∀ j u,xs[j]? = some u → w.cell? ⟨b,g + j,none⟩ = some u):=by
    intro k
    induction k with
    | zero=>exact fun _=>⟨[],[],rfl,Seq.nil _ _,fun h=>absurd h (by omega)⟩
    | succ k ih=>
      intro hk;obtain ⟨xs,ms,l,o,h3⟩:=ih (by omega);obtain ⟨c,hc,ac⟩:=hi k (by omega);rw [ab] at hc;obtain ⟨_,a6,a1⟩:=World.cells?_some hc;obtain ⟨mm,a2⟩:=a7 _ _ _ ac fun q hq=>hz q (List.mem_cons_of_mem _ (List.mem_append_left _ (Na (List.mem_map.2 ⟨k,List.mem_range.2 (by omega),rfl⟩) hq)))
      have hs : s = none ∧ b < w.heap.size:=by
        rcases Nat.eq_zero_or_pos k with i | i
        · subst i
          have x:=a1 0 a3;have e0 : c[0]? = some (c[0]'(by omega)):=List.getElem?_eq_getElem (by omega);rw [e0,Nat.zero_mul] at x;have z : w.cell? ⟨b,g,s⟩ = some (c[0]'(by omega)):=by simpa [Addr.add] using x
          exact ⟨x0n z,World.block_lt_of_cell? w _ z⟩
        exact ⟨(h3 i).1,(h3 i).2.1⟩
      obtain ⟨rfl,a5⟩:=hs;refine ⟨xs ++ c,ms ++ [mm],by simp [l],o.append (Seq.one a6 a2),fun _=>⟨rfl,a5,fun j u r=>?_⟩⟩
      rcases Nat.lt_or_ge j xs.length with hj | hj
      · rw [List.getElem?_append_left hj] at r
        have a9 : 0 < k:=by
          rcases Nat.eq_zero_or_pos k with i | i
          · have:=o.1; rw [l,i] at this; omega
          exact i
        exact (h3 a9).2.2 j u r
      rw [List.getElem?_append_right hj] at r
      have av : j - xs.length < c.length:=by
        rcases Nat.lt_or_ge (j - xs.length) c.length with h | h
        · exact h
        rw [List.getElem?_eq_none h] at r; cases r
      have:=a1 (j - xs.length) (by omega);rw [r,B9,B9] at this;have e1:=o.1;rw [l] at e1;rw [show g + k * size + (j - xs.length) = g + j from by omega] at this;exact this
  obtain ⟨xs,ms,l,o,h3⟩:=ad len (Nat.le_refl _);refine ⟨_,len,cap,xs,ms,rfl,hl,hm,l,⟨by rw [o.1,l],fun hp=>?_⟩,o⟩;obtain ⟨rfl,hb,hc⟩:=h3 hp;exact ⟨b,g,rfl,hb,hc⟩
theorem Wp {t e n : Nat} {cs : List Value} {y : DataW H × List MemPlace} (E : List TypeId) (ht : P.underlying t = some (.slice e)) (he : P.underlying e = some (.int .u8)) (q : P.cellsOf e = 1)
    (h : DataW.trod enc P w 0 spare held n t cs = some y) : ∃ A c l,cs = [.slice A l.length c] ∧ l.length ≤ c ∧ c ≤ maxLen ∧ Bs E w.heap.size w A l.length l:=by
  rcases open_ints ht he q h with ⟨rfl,_⟩ | ⟨a,f,p,o,rfl,_,hl,hm,hz,_,r,hw⟩
  · exact ⟨none,0,[],rfl,Nat.le_refl _,by simp [maxLen],Bs.nil _ _ _ _⟩
  have a6 : f ≤ o.length:=by rw [hz]; split <;> omega
  have d : ((o.take f).map fun z=>UInt8.ofNat z.toNat).length = f:=by simp; omega
  refine ⟨some a,p,(o.take f).map fun z=>UInt8.ofNat z.toNat,by rw [d],by rw [d]; omega,by omega,?_⟩;rw [d];refine ⟨d,fun hp=>?_⟩;obtain ⟨b,m,s⟩:=a;have h0:=r 0 (by omega);have i : w.cell? ⟨b,m,s⟩ = some (.int .u8 (o.getD 0 0)):=by simpa [Addr.add] using h0
  obtain rfl:=x0n i;have k:=World.block_lt_of_cell? w _ i;refine ⟨b,m,rfl,k,.inl k,fun j x u=>?_⟩;simp only [List.getElem?_map,Option.map_eq_some_iff] at u;obtain ⟨z,g,rfl⟩:=u
  have hj : j < f:=by
    rcases Nat.lt_or_ge j f with h | h
    · exact h
    rw [List.getElem?_take,if_neg (by omega)] at g; cases g
  rw [List.getElem?_take,if_pos hj] at g;have:=r j (by omega);rw [B9] at this;rw [this];have a7:=x3o (hw z (List.mem_of_getElem? g));have v : o.getD j 0 = z:=by simp [List.getD_eq_getElem?_getD,g]
  rw [v];unfold u8;rw [UInt8.toNat_ofNat']
  congr 2
  omega
end
end Go.Hub
set_option maxRecDepth 100000
namespace Go.Proofs.YtkdeedhjkjffpaaGreat
open Go.RowKit Go.Hub Go.ChangeShapes Go.WideShapes Go.Deep
def _root_.Go.Hub.Pk.Fits (p : Pk) : Prop:=p.pay.length ≤ maxLen ∧ p.wp.length ≤ maxLen ∧ p.pass.length ≤ maxLen ∧ p.subs.length ≤ maxLen ∧ p.codes.length ≤ maxLen
section
variable {H : Type} {enc : TypeId × Value → H} {w : World} {spare : Nat → Bool} {held : Bool}
theorem x8v (n : Nat) (cs : List Value) (y : DataW H × List MemPlace) (h : DataW.trod enc Tryz.prog w 0 spare held n 79 cs = some y) : ∃ s : ByteArray × Int,cs = [.string s.1,.int .i64 s.2]:=by
  obtain ⟨d,l,_,_,b,c,k⟩:=DataW.trod_struct U79 h;have a : Tryz.prog.cellsOf 79 = 2:=by kernel_rfl
  rw [a] at b
  match cs,b with
  | [v0,v1],_=>
    have o : Tryz.prog.cellsOf 9 = 1:=by kernel_rfl
    have m : Tryz.prog.cellsOf 3 = 1:=by kernel_rfl
    have i : DataW.trod enc Tryz.prog w 0 spare held l 9 [v0] = d[0]?:=by have:=k 0 _ rfl; simpa [o] using this
    have j : DataW.trod enc Tryz.prog w 0 spare held l 3 [v1] = d[1]?:=by have:=k 1 _ rfl; simpa [m] using this
    have p : d.length = 2:=c;rw [List.getElem?_eq_getElem (by omega)] at i j;obtain ⟨s,f,_,_⟩:=DataW.trod_string U9 i;obtain ⟨q,g,_,_⟩:=DataW.trod_int U3 j;simp at f g;subst f g;exact ⟨(s,q),rfl⟩
theorem x3k (n : Nat) (cs : List Value) (y : DataW H × List MemPlace) (h : DataW.trod enc Tryz.prog w 0 spare held n 3 cs = some y) : ∃ q : Int,cs = [.int .i64 q]:=by
  obtain ⟨q,a,_,_⟩:=DataW.trod_int U3 h;exact ⟨q,a⟩
theorem x8w {xs : List Value} {a : List (ByteArray × Int)} (h : Seq 2 (fun cs s=>cs = [.string s.1,.int .i64 s.2]) xs a) : xs = subCells a:=by
  induction a generalizing xs with
  | nil=>have:=h.1; simp at this; subst this; rfl
  | cons m r ih=>
    have b:=h.2 0 m rfl;have c:=ih (h.drop 1);simp at b;have e : xs = xs.take 2 ++ xs.drop 2:=(List.take_append_drop 2 xs).symm;rw [e,b];simp at c;rw [c];simp [subCells]
theorem x3l {xs : List Value} {a : List Int} (h : Seq 1 (fun cs q=>cs = [.int .i64 q]) xs a) : xs = codeCells a:=by
  induction a generalizing xs with
  | nil=>have:=h.1; simp at this; subst this; rfl
  | cons m r ih=>
    have b:=h.2 0 m rfl;have c:=ih (h.drop 1);simp at b;have e : xs = xs.take 1 ++ xs.drop 1:=(List.take_append_drop 1 xs).symm;rw [e,b];simp at c;rw [List.drop_one,c];simp [codeCells]
theorem Tb {E : List TypeId} {A : Option Addr} {n size : Nat} {xs : List Value} (h : Rds w w.heap.size size A n xs) : Cs E w.heap.size w A n size xs:=
  ⟨h.1,fun f=>by
    obtain ⟨b,a,e,c,d⟩:=h.2 f
    exact ⟨b,a,e,c,.inl c,d⟩⟩
theorem Nb {t e n : Nat} {v : Value} {y : DataW H × List MemPlace} (f : Tryz.prog.underlying t = some (.slice e)) (h : DataW.trod enc Tryz.prog w 0 spare held n t [v] = some y) : ∃ a len cap,v = .slice a len cap:=by
  rcases open_slice f h with ⟨b,_⟩ | ⟨i,d,c,m,n,D,g,b,_⟩
  · simp at b; exact ⟨_,_,_,b⟩
  simp at b; exact ⟨_,_,_,b⟩
theorem Wq (n : Nat) (cs : List Value) (y : DataW H × List MemPlace) (h : DataW.trod enc Tryz.prog w 0 spare held n 39 cs = some y) : ∃ p s,cs = (Pk.cells p s).toList ∧ p.Ok [5,79,3] w.heap.size w s ∧ p.Fits:=by
  obtain ⟨a,c,_,_,ag,b3,b⟩:=DataW.trod_struct U39 h;have d : Tryz.prog.cellsOf 39 = 24:=by kernel_rfl
  rw [d] at ag
  match cs,ag with
  | [v0,v1,v2,v3,v4,v5,v6,v7,v8,v9,v10,v11,v12,v13,v14,v15,v16,v17,v18,v19,v20,v21,v22,v23],_=>
    have k : Tryz.prog.cellsOf 3 = 1:=by kernel_rfl
    have f : Tryz.prog.cellsOf 4 = 1:=by kernel_rfl
    have k9 : Tryz.prog.cellsOf 9 = 1:=by kernel_rfl
    have j : Tryz.prog.cellsOf 33 = 1:=by kernel_rfl
    have b5 : Tryz.prog.cellsOf 35 = 4:=by kernel_rfl
    have b6 : Tryz.prog.cellsOf 36 = 1:=by kernel_rfl
    have b7 : Tryz.prog.cellsOf 37 = 1:=by kernel_rfl
    have cw : a.length = 21:=b3;have f0 : DataW.trod enc Tryz.prog w 0 spare held c 3 [v0] = a[0]?:=by have:=b 0 _ rfl; simpa [k] using this
    rw [List.getElem?_eq_getElem (by omega)] at f0;have f1 : DataW.trod enc Tryz.prog w 0 spare held c 4 [v1] = a[1]?:=by have:=b 1 _ rfl; simpa [f] using this
    rw [List.getElem?_eq_getElem (by omega)] at f1;have f2 : DataW.trod enc Tryz.prog w 0 spare held c 4 [v2] = a[2]?:=by have:=b 2 _ rfl; simpa [f] using this
    rw [List.getElem?_eq_getElem (by omega)] at f2;have f3 : DataW.trod enc Tryz.prog w 0 spare held c 3 [v3] = a[3]?:=by have:=b 3 _ rfl; simpa [k] using this
    rw [List.getElem?_eq_getElem (by omega)] at f3;have f4 : DataW.trod enc Tryz.prog w 0 spare held c 3 [v4] = a[4]?:=by have:=b 4 _ rfl; simpa [k] using this
    rw [List.getElem?_eq_getElem (by omega)] at f4;have f5 : DataW.trod enc Tryz.prog w 0 spare held c 9 [v5] = a[5]?:=by have:=b 5 _ rfl; simpa [k9] using this
    rw [List.getElem?_eq_getElem (by omega)] at f5;have f6 : DataW.trod enc Tryz.prog w 0 spare held c 33 [v6] = a[6]?:=by have:=b 6 _ rfl; simpa [j] using this
    rw [List.getElem?_eq_getElem (by omega)] at f6;have f7 : DataW.trod enc Tryz.prog w 0 spare held c 3 [v7] = a[7]?:=by have:=b 7 _ rfl; simpa [k] using this
    rw [List.getElem?_eq_getElem (by omega)] at f7;have f8 : DataW.trod enc Tryz.prog w 0 spare held c 9 [v8] = a[8]?:=by have:=b 8 _ rfl; simpa [k9] using this
    rw [List.getElem?_eq_getElem (by omega)] at f8;have f9 : DataW.trod enc Tryz.prog w 0 spare held c 4 [v9] = a[9]?:=by have:=b 9 _ rfl; simpa [f] using this
    rw [List.getElem?_eq_getElem (by omega)] at f9;have a3 : DataW.trod enc Tryz.prog w 0 spare held c 3 [v10] = a[10]?:=by have:=b 10 _ rfl; simpa [k] using this
    rw [List.getElem?_eq_getElem (by omega)] at a3;have a4 : DataW.trod enc Tryz.prog w 0 spare held c 4 [v11] = a[11]?:=by have:=b 11 _ rfl; simpa [f] using this
    rw [List.getElem?_eq_getElem (by omega)] at a4;have a5 : DataW.trod enc Tryz.prog w 0 spare held c 35 [v12,v13,v14,v15] = a[12]?:=by have:=b 12 _ rfl; simpa [b5] using this
    rw [List.getElem?_eq_getElem (by omega)] at a5;have a6 : DataW.trod enc Tryz.prog w 0 spare held c 4 [v16] = a[13]?:=by have:=b 13 _ rfl; simpa [f] using this
    rw [List.getElem?_eq_getElem (by omega)] at a6;have a7 : DataW.trod enc Tryz.prog w 0 spare held c 4 [v17] = a[14]?:=by have:=b 14 _ rfl; simpa [f] using this
    rw [List.getElem?_eq_getElem (by omega)] at a7;have a8 : DataW.trod enc Tryz.prog w 0 spare held c 9 [v18] = a[15]?:=by have:=b 15 _ rfl; simpa [k9] using this
    rw [List.getElem?_eq_getElem (by omega)] at a8;have a9 : DataW.trod enc Tryz.prog w 0 spare held c 33 [v19] = a[16]?:=by have:=b 16 _ rfl; simpa [j] using this
    rw [List.getElem?_eq_getElem (by omega)] at a9;have aa : DataW.trod enc Tryz.prog w 0 spare held c 4 [v20] = a[17]?:=by have:=b 17 _ rfl; simpa [f] using this
    rw [List.getElem?_eq_getElem (by omega)] at aa;have ab : DataW.trod enc Tryz.prog w 0 spare held c 3 [v21] = a[18]?:=by have:=b 18 _ rfl; simpa [k] using this
    rw [List.getElem?_eq_getElem (by omega)] at ab;have g : DataW.trod enc Tryz.prog w 0 spare held c 36 [v22] = a[19]?:=by have:=b 19 _ rfl; simpa [b6] using this
    rw [List.getElem?_eq_getElem (by omega)] at g;have i : DataW.trod enc Tryz.prog w 0 spare held c 37 [v23] = a[20]?:=by have:=b 20 _ rfl; simpa [b7] using this
    rw [List.getElem?_eq_getElem (by omega)] at i;obtain ⟨zs,n2,_,_,_,b4,hg⟩:=DataW.trod_struct U35 a5;have l4 : zs.length = 4:=b4;have g0 : DataW.trod enc Tryz.prog w 0 spare held n2 9 [v12] = zs[0]?:=by have:=hg 0 _ rfl; simpa [k9] using this
    have g1 : DataW.trod enc Tryz.prog w 0 spare held n2 33 [v13] = zs[1]?:=by have:=hg 1 _ rfl; simpa [j] using this
    have g2 : DataW.trod enc Tryz.prog w 0 spare held n2 3 [v14] = zs[2]?:=by have:=hg 2 _ rfl; simpa [k] using this
    have g3 : DataW.trod enc Tryz.prog w 0 spare held n2 4 [v15] = zs[3]?:=by have:=hg 3 _ rfl; simpa [f] using this
    rw [List.getElem?_eq_getElem (by omega)] at g0 g1 g2 g3;obtain ⟨x0,e0,_,_⟩:=DataW.trod_int U3 f0;obtain ⟨x1,e1,_⟩:=DataW.trod_bool U4 f1;obtain ⟨x2,e2,_⟩:=DataW.trod_bool U4 f2;obtain ⟨x3,e3,_,_⟩:=DataW.trod_int U3 f3;obtain ⟨x4,e4,_,_⟩:=DataW.trod_int U3 f4;obtain ⟨x5,e5,_,_⟩:=DataW.trod_string U9 f5;obtain ⟨A6,c6,x6,e6,l6,o6⟩:=J2 [5,79,3] U33 U5 (by kernel_rfl) f6;obtain ⟨x7,e7,_,_⟩:=DataW.trod_int U3 f7;obtain ⟨x8,e8,_,_⟩:=DataW.trod_string U9 f8;obtain ⟨x9,e9,_⟩:=DataW.trod_bool U4 f9;obtain ⟨bh,l,_,_⟩:=DataW.trod_int U3 a3;obtain ⟨bi,m,_⟩:=DataW.trod_bool U4 a4;obtain ⟨bn,v,_⟩:=DataW.trod_bool U4 a6;obtain ⟨bo,x,_⟩:=DataW.trod_bool U4 a7;obtain ⟨bp,z,_,_⟩:=DataW.trod_string U9 a8;obtain ⟨au,ay,bq,a0,b9,bb⟩:=J2 [5,79,3] U33 U5 (by kernel_rfl) a9;obtain ⟨br,a1,_⟩:=DataW.trod_bool U4 aa;obtain ⟨bs,a2,_,_⟩:=DataW.trod_int U3 ab;obtain ⟨cq,cl,cu,b1⟩:=Nb U36 g;obtain ⟨cr,cm,cv,b2⟩:=Nb U37 i;obtain ⟨bj,o,_,_⟩:=DataW.trod_string U9 g0;obtain ⟨ar,ax,bk,r,b8,ba⟩:=J2 [5,79,3] U33 U5 (by kernel_rfl) g1;obtain ⟨bl,t,_,_⟩:=DataW.trod_int U3 g2;obtain ⟨bm,u,_⟩:=DataW.trod_bool U4 g3;subst b1 b2
    obtain ⟨av,cy,az,cn,bt,bc,ac,ae,ah,aj,bf⟩:=Wo (rel:=fun cs (s : ByteArray × Int)=>cs = [.string s.1,.int .i64 s.2]) (show Tryz.prog.cellsOf 79 = 2 by kernel_rfl) (by omega) U36 ⟨_,_,_,rfl⟩ ⟨_,g⟩ x8v;obtain ⟨aw,cz,b0,co,bu,bd,ad,af,ai,ak,bg⟩:=Wo (rel:=fun cs (q : Int)=>cs = [.int .i64 q]) (show Tryz.prog.cellsOf 3 = 1 by kernel_rfl) (by omega) U37 ⟨_,_,_,rfl⟩ ⟨_,i⟩ x3k;rw [bc,bd];rw [x8w bf] at aj;rw [x3l bg] at ak;subst ah ai;simp at e0 e1 e2 e3 e4 e5 e6 e7 e8 e9 l m o r t u v x z a0 a1 a2;subst e0 e1 e2 e3 e4 e5 e6 e7 e8 e9 l m o r t u v x z a0 a1 a2;exact ⟨⟨x0,x1,x2,x3,x4,x5,x6,x7,x8,x9,bh,bi,bj,bk,bl,bm,bn,bo,bp,bq,br,bs,bt,bu⟩,⟨A6,c6,ar,ax,au,ay,av,az,aw,b0⟩,rfl,⟨o6,ba,bb,Tb aj,Tb ak⟩,l6,b8,b9,Nat.le_trans ac ae,Nat.le_trans ad af⟩
theorem each {t : TypeId} {g : Array Field} {n : Nat} {cs : List Value} {y : DataW H × List MemPlace} (l : Tryz.prog.underlying t = some (.struct g)) (h : DataW.trod enc Tryz.prog w 0 spare held n t cs = some y) (r : ∀ k ∈ y.1.weights Tryz.prog t, k ≤ reachBytes)
    (i : Nat) (f : Field) (b : g[i]? = some f) : ∃ n' z,DataW.trod enc Tryz.prog w 0 spare held n' f.type ((cs.drop f.offset).take (Tryz.prog.cellsOf f.type)) = some z ∧ ∀ k ∈ z.1.weights Tryz.prog f.type,k ≤ reachBytes:=by
  obtain ⟨a,n',_,rfl,_,c,o⟩:=DataW.trod_struct l h;have p : i < a.length:=by rw [c]; exact (Array.getElem?_eq_some_iff.1 b).1
  have m : a[i]? = some a[i]:=List.getElem?_eq_getElem p;refine ⟨n',a[i],by rw [o i f b,m],fun k q=>r k ?_⟩;simp only [DataW.weights,l];exact DataW.weights_mem_each (j:=i) (t:=f.type) (d:=a[i].1) (by simp [← Array.getElem?_toList] at b ⊢; exact ⟨f,b,rfl⟩) (by simp [m]) k q
theorem Nw {n : Nat} {v : Value} {y : DataW H × List MemPlace} (h : DataW.trod enc Tryz.prog w 0 spare held n 5 [v] = some y) : ∃ q : Int,v = .int .u8 q ∧ 0 ≤ q ∧ q < 256:=by
  obtain ⟨q,a,_,b⟩:=DataW.trod_int U5 h;simp at a;have:=x3o b;exact ⟨q,a,by omega⟩
theorem x3m (n : Nat) (cs : List Value) (y : DataW H × List MemPlace) (h : DataW.trod enc Tryz.prog w 0 spare held n 41 cs = some y) (hz : ∀ k ∈ y.1.weights Tryz.prog 41,k ≤ reachBytes) : ∃ x : WdA,cs = wdc x ∧ y1z w x:=by
  have l:=each (i:=5) Tryz.underlying41 h hz;obtain ⟨d,f,_,_,j,q,b⟩:=DataW.trod_struct Tryz.underlying41 h;have a : Tryz.prog.cellsOf 41 = 30:=by kernel_rfl
  rw [a] at j;have l7 : d.length = 7:=q;have k4 : Tryz.prog.cellsOf 4 = 1:=by kernel_rfl
  have m : Tryz.prog.cellsOf 5 = 1:=by kernel_rfl
  have t : Tryz.prog.cellsOf 39 = 24:=by kernel_rfl
  have r : Tryz.prog.cellsOf 33 = 1:=by kernel_rfl
  match cs,j with
  | [v0,v1,v2,v3,v4,p0,p1,p2,p3,p4,p5,p6,p7,p8,p9,p10,p11,p12,p13,p14,p15,p16,p17,p18,p19,p20,p21,p22,p23,v6],_=>
    have f0 : DataW.trod enc Tryz.prog w 0 spare held f 4 [v0] = d[0]?:=by have:=b 0 _ rfl; simpa [k4] using this
    have f1 : DataW.trod enc Tryz.prog w 0 spare held f 5 [v1] = d[1]?:=by have:=b 1 _ rfl; simpa [m] using this
    have f2 : DataW.trod enc Tryz.prog w 0 spare held f 5 [v2] = d[2]?:=by have:=b 2 _ rfl; simpa [m] using this
    have f3 : DataW.trod enc Tryz.prog w 0 spare held f 5 [v3] = d[3]?:=by have:=b 3 _ rfl; simpa [m] using this
    have f4 : DataW.trod enc Tryz.prog w 0 spare held f 5 [v4] = d[4]?:=by have:=b 4 _ rfl; simpa [m] using this
    have f6 : DataW.trod enc Tryz.prog w 0 spare held f 33 [v6] = d[6]?:=by have:=b 6 _ rfl; simpa [r] using this
    rw [List.getElem?_eq_getElem (by omega)] at f0 f1 f2 f3 f4 f6;obtain ⟨n5,z5,a5,b5⟩:=l _ rfl;have g : DataW.trod enc Tryz.prog w 0 spare held n5 39 [p0,p1,p2,p3,p4,p5,p6,p7,p8,p9,p10,p11,p12,p13,p14,p15,p16,p17,p18,p19,p20,p21,p22,p23] = some z5:=by simpa [t] using a5
    clear l h hz b;obtain ⟨u,e0,_⟩:=DataW.trod_bool U4 f0;obtain ⟨v,e1,w1⟩:=Nw f1;obtain ⟨z,e2,w2⟩:=Nw f2;obtain ⟨x3,e3,w3⟩:=Nw f3;obtain ⟨x4,e4,w4⟩:=Nw f4;obtain ⟨p,s,ep,o,_⟩:=Wq _ _ _ g;have a6 : DataW.trod enc Tryz.prog w 0 spare held n5 39 (Pk.cells p s).toList = some z5:=by rw [← ep]; exact g
    obtain ⟨A,c,x,ex,hl,_,hb⟩:=Wp [5,79,3] U33 U5 (by kernel_rfl) f6;simp at e0 ex;refine ⟨⟨⟨u,v,z,x3,x4,p,x⟩,s,A,c⟩,?_,⟨w1,w2,w3,w4,o,hb,hl⟩⟩;have e9 : wdc ⟨⟨u,v,z,x3,x4,p,x⟩,s,A,c⟩ = [.bool u,.int .u8 v,.int .u8 z,.int .u8 x3,.int .u8 x4] ++ ((Pk.cells p s).toList ++ [.slice A x.length c]):=rfl;rw [e9,← ep,e0,e1,e2,e3,e4,ex]
    rfl
theorem y8b {M : Type} {size : Nat} {cell : M → List Value} {R : M → Prop} : ∀ (c : List M) (xs : List Value), Seq size (fun cs m => cs = cell m ∧ R m) xs c → xs = c.flatMap cell ∧ ∀ m ∈ c, R m
  | [],xs,h=>by
    have:=h.1
    simp at this
    exact ⟨by simp [this],by simp⟩
  | m :: r,xs,h=>by
    have a:=h.2 0 m rfl
    rw [Nat.zero_mul,List.drop_zero] at a
    have d:=h.drop 1
    rw [Nat.one_mul] at d
    obtain ⟨f,g⟩:=y8b r _ d
    refine ⟨?_,fun y b=>?_⟩
    · rw [List.flatMap_cons,← a.1,← f,List.take_append_drop]
    rcases List.mem_cons.1 b with rfl | b
    · exact a.2
    exact g y b
def x0o (w : World) (v : Value) : Prop:=∃ l A c,v = .slice A (l : List WdA).length c ∧ l.length ≤ maxLen ∧ Sl w A l.length 30 (l.flatMap wdc) ∧ ∀ d ∈ l,y1z w d
theorem Yf {r : Reach} {c : Nat} {v : Value} {d : DataW H} {p : List MemPlace} (i : Value.okWide Tryz.prog w r c 22 v) (h : DataW.Trod enc Tryz.prog w 0 spare held 22 v d p) (j : ∀ k ∈ d.weights Tryz.prog 22,k ≤ reachBytes) : x0o w v:=by
  obtain ⟨A,m,q,n,l,rfl,o,t,g,b,s⟩:=x3j (rel:=fun f x=>f = wdc x ∧ y1z w x) (show Tryz.prog.cellsOf 41 = 30 by kernel_rfl) (by omega) U22 (okWide_slice U22 i) h j x3m;subst g;obtain ⟨e,a⟩:=y8b l n s;rw [e] at b;exact ⟨l,A,q,rfl,by omega,Sl.of_rds b,a⟩
end
theorem Yg {w : World} (c : Bool) {d : Value} (f : x0o w d) : Calls Tryz.prog 3 #[d,.bool c] w (fun e w'=>e = .returned (.bool true) ∧ Below w.heap.size w w'):=by
  obtain ⟨l,A,b,rfl,h,g,a⟩:=f;exact Ye l A b c w g a
end Go.Proofs.YtkdeedhjkjffpaaGreat
