/- Merged by program (shrink.py): contracts and plain laws that the claim's statement uses, part 5. -/
import Derived.Test.YtkdeedhjkjffpaaGreatMa4
set_option linter.all false
set_option maxRecDepth 100000
set_option maxHeartbeats 8000000

namespace Go.Proofs.YtkdeedhjkjffpaaGreat
open Go.RowKit Go.Hub
def Pa.pk (x : Pa) : Pk:={ kind:=x.kind,dup:=x.dup,retain:=x.ret,qos:=x.qos,id:=x.id,topic:=x.tp,pay:=x.pay }
def Fz : Tr → List Pk → Option Tr
  | t,[]=>some t
  | t,p :: r=>if (t.outT p).1 = true then Fz (t.outT p).2 r else none
theorem V5 : ∀ (l r : List Pk) (t : Tr), Fz t (l ++ r) = (Fz t l).bind fun u => Fz u r
  | [],_,_=>rfl
  | p :: l,r,t=>by
    simp only [List.cons_append,Fz]
    split
    · exact V5 l r _
    rfl
theorem Ds {t a : Tr} {p : Pk} (h : t.outT p = (true,a)) : Fz t [p] = some a:=by simp [Fz,h]
theorem Kx {t a b : Tr} {l r : List Pk} (h : Fz t l = some a) (k : Fz a r = some b) : Fz t (l ++ r) = some b:=by rw [V5,h]; exact k
def GM (m : Ms) : Prop:=m.qos = 1 ∨ m.qos = 2
structure OkA (a : SA) : Prop where
  perm : a.used.Perm (a.fly.map (·.id))
  nd : a.used.Nodup
  tk : 0 ≤ a.taken
  len : a.fly.length ≤ 4
  fm : ∀ f ∈ a.fly,GM f.m ∧ (f.rc = true → f.m.qos = 2)
  wm : ∀ m ∈ a.wait,GM m
def Nu (f : Fa) : FlP:=((D0 f.m f.id false).pk,false,f.rc,f.rc)
structure OutIs (t : Tr) (l : List Fa) : Prop where
  some_ : ∀ f ∈ l,lk t.out f.id = some (Nu f)
  none_ : ∀ id,id ∉ l.map (·.id) → lk t.out id = none
structure Calm (t : Tr) : Prop where
  left : t.left = false
  gre : t.greeted = true
  told : ∃ c : Pk,t.told = [c] ∧ c.code = 0 ∧ c.present = false
  subs : t.subs = []
  uns : t.unsubs = []
  owed : ∀ k,(lk t.owed k).getD 0 = 0
structure Inv (t : Tr) (a : SA) : Prop where
  calm : Calm t
  out : OutIs t a.fly
  ok : OkA a
section
variable {t : Tr} {a : SA} {m : Ms} {now : Int}
theorem Calm.ready (h : Calm t) : t.readyB = true:=by
  obtain ⟨c,e,b,_⟩:=h.told;unfold Tr.readyB;rw [e];simp [b]
theorem Calm.setOut (h : Calm t) (o : List (Int × FlP)) : Calm { t with out:=o }:=⟨h.left,h.gre,h.told,h.subs,h.uns,h.owed⟩
theorem x7j (h : OkA a) : (a.fly.map (·.id)).Nodup:=h.perm.nodup_iff.1 h.nd
theorem x0g (h : OkA a) (b : a.fly.length < 4) : Go.Ids.nxt a.used a.taken ∉ a.used ∧ 1 ≤ Go.Ids.nxt a.used a.taken ∧ Go.Ids.nxt a.used a.taken ≤ 65535:=
  Go.Ids.nxt_spec a.used a.taken h.tk (by have:=h.perm.length_eq; rw [List.length_map] at this; omega)
theorem Inv.rise (h : Inv t a) (i : GM m) (l : a.fly.length < 4) : ∃ t',Fz t [(Fh a m).pk] = some t' ∧ Inv t' (Hf a m now):=by
  obtain ⟨g,p,q⟩:=x0g h.ok l;have j : Go.Ids.nxt a.used a.taken ∉ a.fly.map (·.id):=fun e=>g (h.ok.perm.mem_iff.2 e);have o : m.qos ≠ 0:=by rcases i with h | h <;> omega
  have n : t.outT (Fh a m).pk = (true,{ t with out:=((Fh a m).pk.id,((Fh a m).pk,false,false,false)) :: strike t.out (Fh a m).pk.id }):=by
    unfold Tr.outT;rw [if_neg (by show ¬ (3 : Int) = 2; decide),if_neg (by rw [h.calm.ready]; simp),if_pos (by rfl)];unfold Tr.pubT;rw [if_neg (by exact o),show lk t.out (Fh a m).pk.id = none from h.out.none_ _ j]
  refine ⟨_,Ds n,h.calm.setOut _,⟨fun f b=>?_,fun k c=>?_⟩,?_⟩
  · rcases List.mem_append.1 b with b | b
    · have d : f.id ≠ Go.Ids.nxt a.used a.taken := fun e => j (e ▸ List.mem_map_of_mem b)
      show lk ((_,_) :: strike t.out _) f.id = _;rw [Bl,if_neg (by exact fun e=>d e.symm),Av _ (by exact d)];exact h.out.some_ f b
    obtain rfl:=List.mem_singleton.1 b;show lk ((_,_) :: strike t.out _) _ = _;rw [Bl];exact (if_pos rfl).trans rfl
  · simp only [Hf, List.map_append, List.mem_append, not_or, List.map_cons, List.map_nil, List.mem_singleton] at c
    show lk ((_,_) :: strike t.out _) k = _;rw [Bl,if_neg (by exact fun e=>c.2 e.symm),Av _ (by exact c.2)];exact h.out.none_ k c.1
  refine ⟨?_,?_,by show 0 ≤ Go.Ids.nxt a.used a.taken; omega,by simp [Hf]; omega,fun f b=>?_,h.ok.wm⟩
  · show (G1 (Go.Ids.nxt a.used a.taken) a.used).Perm _
    rw [G1,if_neg g];simp only [Hf,List.map_append,List.map_cons,List.map_nil];exact (List.Perm.cons _ h.ok.perm).trans (List.perm_append_singleton _ _).symm
  · show (G1 (Go.Ids.nxt a.used a.taken) a.used).Nodup
    rw [G1,if_neg g];exact List.nodup_cons.2 ⟨g,h.ok.nd⟩
  rcases List.mem_append.1 b with b | b
  · exact h.ok.fm f b
  obtain rfl:=List.mem_singleton.1 b;exact ⟨i,fun h=>by cases h⟩
theorem Inv.setWait (h : Inv t a) {l : List Ms} (c : ∀ m ∈ l,GM m) (b : Int) : Inv t { a with wait:=l,lost:=b }:=⟨h.calm,h.out,⟨h.ok.perm,h.ok.nd,h.ok.tk,h.ok.len,h.ok.fm,c⟩⟩
theorem Inv.drainN : ∀ (k : Nat) {t : Tr} {a : SA}, Inv t a → ∃ t', Fz t ((drainN k a now).2.map Pa.pk) = some t' ∧ Inv t' (drainN k a now).1
  | 0,t,a,h=>⟨t,rfl,h⟩
  | k + 1,t,a,h=>by
    unfold Go.Proofs.YtkdeedhjkjffpaaGreat.drainN
    split
    · rename_i hl
      split
      · exact ⟨t,rfl,h⟩
      rename_i m r hw
      have h1 : Inv t { a with wait:=r }:=h.setWait (fun x d=>h.ok.wm x (by rw [hw]; simp [d])) a.lost
      obtain ⟨j,b,f⟩:=h1.rise (now:=now) (h.ok.wm m (by rw [hw]; simp)) hl
      obtain ⟨i,c,g⟩:=Inv.drainN k f
      exact ⟨i,Kx (l:=[(Fh { a with wait:=r } m).pk]) b c,g⟩
    exact ⟨t,rfl,h⟩
theorem Inv.drain (h : Inv t a) : ∃ t',Fz t ((drainS a now).2.map Pa.pk) = some t' ∧ Inv t' (drainS a now).1:=h.drainN 5
theorem Inv.send (h : Inv t a) (f : 0 ≤ m.qos ∧ m.qos ≤ 2) (d : Bool) : ∃ t',Fz t ((sendS a m d now).2.map Pa.pk) = some t' ∧ Inv t' (sendS a m d now).1:=by
  unfold sendS
  split
  · rename_i h0
    refine ⟨t,Ds ?_,h⟩;unfold Tr.outT;rw [if_neg (by show ¬ (3 : Int) = 2; decide),if_neg (by rw [h.calm.ready]; simp),if_pos (by rfl)];unfold Tr.pubT;rw [if_pos (by exact h0.1)]
  split
  · exact ⟨t,rfl,h⟩
  rename_i h1 h2
  have c : GM m:=by unfold GM; omega
  split
  · rename_i h3
    exact h.rise c h3.2.1
  refine ⟨t,rfl,?_⟩;unfold Pj
  split
  · exact h.setWait (fun x b=>by
      rcases List.mem_append.1 b with b | b
      · exact h.ok.wm x b
      obtain rfl:=List.mem_singleton.1 b; exact c) a.lost
  exact h.setWait h.ok.wm (a.lost + 1)
theorem x7k (m : Ms) (id : Int) : Gr { (D0 m id false).pk with dup:=(D0 m id true).pk.dup,retain:=(D0 m id true).pk.retain } (D0 m id true).pk = true:=Hq.2 rfl
theorem y1g {f : Fa} (c : Calm t) (d : lk t.out f.id = some (Nu f)) (b : f.rc = true) (g : f.m.qos = 2) : t.outT (Bq 6 f.id).pk = (true,{ t with out:=(f.id,Nu f) :: strike t.out f.id }):=by
  unfold Tr.outT;rw [if_neg (by show ¬ (6 : Int) = 2; decide),if_neg (by rw [c.ready]; simp),if_neg (by show ¬ (6 : Int) = 3; decide),if_pos (by rfl)];unfold Tr.relT;rw [show (Bq 6 f.id).pk.id = f.id from rfl,d];simp only
  rw [if_neg (by
    rintro (h | h)
    · exact h (by exact g)
    exact absurd h (by simp [Nu,b]))]
  simp [Nu,b]
theorem y1h {f : Fa} (b : Calm t) (c : lk t.out f.id = some (Nu f)) (g : f.rc = false) (d : GM f.m) : t.outT (D0 f.m f.id true).pk = (true,t):=by
  unfold Tr.outT;rw [if_neg (by show ¬ (3 : Int) = 2; decide),if_neg (by rw [b.ready]; simp),if_pos (by rfl)];unfold Tr.pubT;rw [if_neg (by show ¬ f.m.qos = 0; rcases d with h | h <;> omega),show (D0 f.m f.id true).pk.id = f.id from rfl,c];have:=x7k f.m f.id;simp only [Nu];rw [this];simp [g,Pa.pk,D0]
theorem OutIs.again {l : List Fa} {f : Fa} (h : OutIs t l) (j : f ∈ l) : OutIs { t with out:=(f.id,Nu f) :: strike t.out f.id } l:=⟨fun g k=>by
    show lk ((_,_) :: strike t.out _) g.id = _
    rw [Bl]
    by_cases e : f.id = g.id
    · rw [if_pos e, ← h.some_ f j, e]
      exact h.some_ g k
    · rw [if_neg e, Av _ (fun d => e d.symm)]
      exact h.some_ g k,fun i b=>by
    have c : f.id ≠ i:=fun e=>b (e ▸ List.mem_map_of_mem j)
    show lk ((_,_) :: strike t.out _) i = _
    rw [Bl,if_neg c,Av _ (fun d=>c d.symm)]
    exact h.none_ i b⟩
theorem I7 {L : List Fa} {ago : Int} (c : ∀ f ∈ L, GM f.m ∧ (f.rc = true → f.m.qos = 2)) : ∀ (l : List Fa) {t : Tr}, (∀ f ∈ l, f ∈ L) → Calm t → OutIs t L → ∃ t', Fz t ((againF now ago l).2.map Pa.pk) = some t' ∧ Calm t' ∧ OutIs t' L
  | [],t,_,hc,ho=>⟨t,rfl,hc,ho⟩
  | f :: r,t,hs,hc,ho=>by
    have hf:=hs f (by simp)
    have h : ∀ g ∈ r,g ∈ L:=fun g n=>hs g (by simp [n])
    unfold againF
    simp only
    split
    · exact I7 c r h hc ho
    obtain ⟨o,i⟩:=c f hf
    have b:=ho.some_ f hf
    cases hb : f.rc with
    | true=>
      obtain ⟨k,d,j⟩:=I7 c r h (hc.setOut ((f.id,Nu f) :: strike t.out f.id)) (ho.again hf)
      exact ⟨k,Kx (l:=[(Bq 6 f.id).pk]) (Ds (y1g hc b hb (i hb))) d,j⟩
    | false=>
      obtain ⟨k,d,j⟩:=I7 c r h hc ho
      exact ⟨k,Kx (l:=[(D0 f.m f.id true).pk]) (Ds (y1h hc b hb o)) d,j⟩
theorem Mx (ago : Int) : ∀ l : List Fa, (againF now ago l).1.map (fun f => (f.m, f.id, f.rc)) = l.map (fun f => (f.m, f.id, f.rc))
  | []=>rfl
  | f :: r=>by
    unfold againF
    simp only
    split <;> simp [Mx ago r]
theorem V6 {l b : List Fa} (h : b.map (fun f=>(f.m,f.id,f.rc)) = l.map (fun f=>(f.m,f.id,f.rc))) : ∀ f ∈ b,∃ g ∈ l,g.m = f.m ∧ g.id = f.id ∧ g.rc = f.rc:=fun f c=>by
  have : (f.m,f.id,f.rc) ∈ l.map (fun f=>(f.m,f.id,f.rc)):=h ▸ List.mem_map_of_mem c
  obtain ⟨g,d,e⟩:=List.mem_map.1 this
  injection e with e1 e2
  injection e2 with e2 e3
  exact ⟨g,d,e1,e2,e3⟩
theorem x7l {l b : List Fa} (h : b.map (fun f=>(f.m,f.id,f.rc)) = l.map (fun f=>(f.m,f.id,f.rc))) : b.map (·.id) = l.map (·.id):=by
  have:=congrArg (List.map fun x : Ms × Int × Bool=>x.2.1) h
  simpa [List.map_map,Function.comp_def] using this
theorem Inv.setFly (h : Inv t a) {l : List Fa} (k : l.map (fun f=>(f.m,f.id,f.rc)) = a.fly.map (fun f=>(f.m,f.id,f.rc))) : Inv t { a with fly:=l }:=by
  have o:=x7l k;have p:=V6 k;have q : l.length = a.fly.length:=by have:=congrArg List.length k; simpa using this
  refine ⟨h.calm,⟨fun f d=>?_,fun r j=>h.out.none_ r (by rw [← o]; exact j)⟩,⟨by show a.used.Perm (l.map (·.id)); rw [o]; exact h.ok.perm,h.ok.nd,h.ok.tk,by show l.length ≤ 4; rw [q]; exact h.ok.len,fun f d=>?_,h.ok.wm⟩⟩
  · obtain ⟨g, i, b, n, c⟩ := p f d
    have:=h.out.some_ g i;unfold Nu at this ⊢;rw [← b,← n,← c];exact this
  obtain ⟨g,i,b,n,c⟩:=p f d;have:=h.ok.fm g i;rw [b,c] at this;exact this
theorem Inv.again (h : Inv t a) (ago : Int) : ∃ t',Fz t ((againS a now ago).2.map Pa.pk) = some t' ∧ Inv t' (againS a now ago).1:=by
  obtain ⟨t',e,b,c⟩:=I7 (now:=now) (ago:=ago) h.ok.fm a.fly (fun _ h=>h) h.calm h.out;exact ⟨t',e,Inv.setFly ⟨b,c,h.ok⟩ (Mx ago a.fly)⟩
variable {p : Pk}
theorem V7 (h : Calm t) (b : p.kind ≠ 1) : ¬ (t.left = true ∨ t.greeted = decide (p.kind = 1)):=by
  rw [h.left,h.gre];simp [b]
theorem V8 (h : Calm t) (k : Int × Int) {k2 : Int × Int} : (lk (t.owe k).owed k2).getD 0 = if k = k2 then 1 else 0:=by
  unfold Tr.owe;simp only;rw [Bl]
  split
  · rw [h.owed]; rfl
  rename_i hne
  rw [Av _ (fun e=>hne e.symm)];exact h.owed k2
theorem y7r (h : Calm t) (k : Int × Int) : ∃ t',(t.owe k).payT k = (true,t') ∧ Calm t' ∧ t'.out = t.out:=by
  have b:=V8 h k (k2:=k);rw [if_pos rfl] at b;unfold Tr.payT;rw [b,if_neg (by decide)];refine ⟨_,rfl,⟨h.left,h.gre,h.told,h.subs,h.uns,fun c=>?_⟩,rfl⟩;show (lk ((k,(1 : Int) - 1) :: strike (t.owe k).owed k) c).getD 0 = 0;rw [Bl]
  split
  · rfl
  rename_i hne
  rw [Av _ (fun e=>hne e.symm),V8 h k,if_neg hne]
theorem S6 (h : Calm t) (k : Int × Int) : (t.owe k).readyB = true:=h.ready
theorem Uc (h : Calm t) {k : Int} (f : k = 4 ∨ k = 5 ∨ k = 7) (id : Int) : ∃ t',(t.owe (k,id)).outT (Bq k id).pk = (true,t') ∧ Calm t' ∧ t'.out = t.out:=by
  obtain ⟨t',e,d,g⟩:=y7r h (k,id);refine ⟨t',?_,d,g⟩;rw [← e];have b : (Bq k id).pk.kind = k:=rfl;have c : (Bq k id).pk.id = id:=rfl;unfold Tr.outT;rw [b,c,if_neg (by omega),if_neg (by rw [S6 h]; simp),if_neg (by omega),if_neg (by omega),if_neg (by omega),if_neg (by omega),if_pos f]
theorem Inv.of_out {t c : Tr} (h : Inv t a) (g : Calm c) (d : c.out = t.out) : Inv c a:=⟨g,⟨fun f i=>by rw [d]; exact h.out.some_ f i,fun j b=>by rw [d]; exact h.out.none_ j b⟩,h.ok⟩
theorem Inv.setGot (h : Inv t a) (g : List Int) : Inv t { a with got:=g }:=⟨h.calm,h.out,⟨h.ok.perm,h.ok.nd,h.ok.tk,h.ok.len,h.ok.fm,h.ok.wm⟩⟩
theorem Inv.got (h : Inv t a) (b : p.kind = 3 ∨ p.kind = 6) (n : 0 ≤ p.qos ∧ p.qos ≤ 2) : ∃ t',Fz (t.inT p) ((gotS a p.kind p.qos p.id).2.2.map Pa.pk) = some t' ∧ Inv t' (gotS a p.kind p.qos p.id).1:=by
  have f:=V7 h.calm (p:=p) (by omega)
  rcases b with b | b
  · have e : t.inT p = t.msgT p := by unfold Tr.inT; rw [if_neg f, if_neg (by omega), if_pos b]
    rw [e,b]
    by_cases l : p.qos = 0
    · have j : t.msgT p = t := by unfold Tr.msgT; rw [if_neg (by omega)]
      have c : gotS a 3 p.qos p.id = (a,true,[]):=by unfold gotS; rw [if_neg (by decide),if_neg (by omega),if_pos l]
      rw [j,c];exact ⟨t,rfl,h⟩
    have j : t.msgT p = t.owe (if p.qos = 1 then 4 else 5,p.id):=by unfold Tr.msgT; rw [if_pos (by omega)]
    rw [j]
    by_cases i : p.qos = 1
    · have c : gotS a 3 p.qos p.id = (a, true, [Bq 4 p.id]) := by unfold gotS; rw [if_neg (by decide), if_neg (by omega), if_neg l, if_pos i]
      rw [c,if_pos i];obtain ⟨t',e,d,g⟩:=Uc h.calm (k:=4) (.inl rfl) p.id;exact ⟨t',Ds e,h.of_out d g⟩
    have c : gotS a 3 p.qos p.id = ({ a with got:=G1 p.id a.got },!decide (p.id ∈ a.got),[Bq 5 p.id]):=by unfold gotS; rw [if_neg (by decide),if_neg (by omega),if_neg l,if_neg i]
    rw [c,if_neg i];obtain ⟨t',e,d,g⟩:=Uc h.calm (k:=5) (.inr (.inl rfl)) p.id;exact ⟨t',Ds e,(h.of_out d g).setGot _⟩
  have e : t.inT p = t.owe (7,p.id):=by unfold Tr.inT; rw [if_neg f,if_neg (by omega),if_neg (by omega),if_pos (by omega)]; unfold Tr.ackT; rw [if_pos b]
  rw [e,b];unfold gotS;rw [if_pos rfl];obtain ⟨t',e,d,g⟩:=Uc h.calm (k:=7) (.inr (.inr rfl)) p.id;exact ⟨t',Ds e,(h.of_out d g).setGot _⟩
theorem Inv.ping (h : Inv t a) (f : p.kind = 12) : ∃ t',Fz (t.inT p) [{ kind:=13 }] = some t' ∧ Inv t' a:=by
  have b:=V7 h.calm (p:=p) (by omega)
  have e : t.inT p = t.owe (13,0):=by
    unfold Tr.inT;rw [if_neg b,if_neg (by omega),if_neg (by omega),if_neg (by omega),if_neg (by omega),if_neg (by omega),if_pos f,← h.calm.left]
  obtain ⟨t',c,d,g⟩:=y7r h.calm (13,0);refine ⟨t',Ds ?_,h.of_out d g⟩;rw [← c,e];unfold Tr.outT;rw [if_neg (by decide),if_neg (by rw [S6 h.calm]; simp),if_neg (by decide),if_neg (by decide),if_neg (by decide),if_neg (by decide),if_neg (by decide),if_pos rfl]
theorem Inv.sub (h : Inv t a) {q : Pk} (d : p.kind = 8) (g : q.kind = 9) (hi : q.id = p.id) (f : p.subs.length = q.codes.length) (c : Gx p.subs q.codes = true) : ∃ t',Fz (t.inT p) [q] = some t' ∧ Inv t' a:=by
  have b:=V7 h.calm (p:=p) (by omega)
  have e : t.inT p = { t with subs:=[p] }:=by
    unfold Tr.inT;rw [if_neg b,if_neg (by omega),if_neg (by omega),if_neg (by omega),if_pos d,h.calm.subs]
    rfl
  refine ⟨{ t with subs:=[] },Ds ?_,h.of_out ⟨h.calm.left,h.calm.gre,h.calm.told,rfl,h.calm.uns,h.calm.owed⟩ rfl⟩;rw [e];have i : ({ t with subs:=[p] } : Tr).readyB = true:=h.calm.ready;unfold Tr.outT;rw [if_neg (by omega),if_neg (by rw [i]; simp),if_neg (by omega),if_neg (by omega),if_pos g];unfold Tr.subT;simp only;rw [if_neg (by rw [hi,f,c]; simp)]
theorem Inv.uns (h : Inv t a) {q : Pk} (c : p.kind = 10) (d : q.kind = 11) (hi : q.id = p.id) : ∃ t',Fz (t.inT p) [q] = some t' ∧ Inv t' a:=by
  have b:=V7 h.calm (p:=p) (by omega)
  have e : t.inT p = { t with unsubs:=[p] }:=by
    unfold Tr.inT;rw [if_neg b,if_neg (by omega),if_neg (by omega),if_neg (by omega),if_neg (by omega),if_pos c,h.calm.uns]
    rfl
  refine ⟨{ t with unsubs:=[] },Ds ?_,h.of_out ⟨h.calm.left,h.calm.gre,h.calm.told,h.calm.subs,rfl,h.calm.owed⟩ rfl⟩;rw [e];have f : ({ t with unsubs:=[p] } : Tr).readyB = true:=h.calm.ready;unfold Tr.outT;rw [if_neg (by omega),if_neg (by rw [f]; simp),if_neg (by omega),if_neg (by omega),if_neg (by omega),if_pos d];unfold Tr.unsT;simp only;rw [if_neg (by rw [hi]; simp)]
theorem idx_find : ∀ {l : List Int} {id k : Int}, Gu l id k = -1 ∧ id ∉ l ∨ ∃ i : Nat, Gu l id k = k + i ∧ l[i]? = some id
  | [],_,_=>.inl ⟨rfl,by simp⟩
  | x :: r,id,k=>by
    unfold Gu
    by_cases hx : x = id
    · subst hx
      exact .inr ⟨0,by simp,rfl⟩
    rw [if_neg hx]
    rcases idx_find (l:=r) (id:=id) (k:=k + 1) with ⟨h1,h2⟩ | ⟨i,h1,h2⟩
    · exact .inl ⟨h1,by simp [h2]; exact fun e=>hx e.symm⟩
    exact .inr ⟨i + 1,by rw [h1]; omega,by simpa using h2⟩
theorem x7m {l : List Fa} {i : Nat} {id : Int} (h : (l.map (·.id))[i]? = some id) : ∃ f,l[i]? = some f ∧ f.id = id:=by
  rw [List.getElem?_map] at h
  cases hf : l[i]? with
  | none=>rw [hf] at h; cases h
  | some f=>rw [hf] at h; exact ⟨f,rfl,by simpa using h⟩
theorem I8 : ∀ {l : List Fa} {i : Nat} {f : Fa}, (l.map (·.id)).Nodup → l[i]? = some f → (l.eraseIdx i).map (·.id) = (l.map (·.id)).erase f.id
  | [],_,_,_,h=>by simp at h
  | g :: r,0,f,_,h=>by
    obtain rfl : g = f:=by simpa using h
    simp
  | g :: r,i + 1,f,hn,h=>by
    have c : f ∈ r:=List.mem_of_getElem? (by simpa using h)
    rw [List.map_cons,List.nodup_cons] at hn
    have b : g.id ≠ f.id:=fun e=>hn.1 (e ▸ List.mem_map_of_mem c)
    rw [List.eraseIdx_cons_succ,List.map_cons,List.map_cons,List.erase_cons_tail (by simpa using b),I8 hn.2 (by simpa using h)]
theorem x2v {l : List Fa} {i : Nat} {f g : Fa} (d : (l.map (·.id)).Nodup) (h : l[i]? = some f) (c : g ∈ l.eraseIdx i) : g ∈ l ∧ g.id ≠ f.id:=by
  refine ⟨List.mem_of_mem_eraseIdx c,fun e=>?_⟩;have b : g.id ∈ (l.map (·.id)).erase f.id:=by rw [← I8 d h]; exact List.mem_map_of_mem c
  rw [d.mem_erase_iff] at b;exact b.1 e
theorem Inv.gone (h : Inv t a) {i : Nat} {f : Fa} (d : a.fly[i]? = some f) : Inv { t with out:=strike t.out f.id } { a with used:=a.used.erase f.id,fly:=a.fly.eraseIdx i }:=by
  have b:=x7j h.ok;refine ⟨h.calm.setOut _,⟨fun g j=>?_,fun c k=>?_⟩,⟨?_,h.ok.nd.erase _,h.ok.tk,Nat.le_trans (List.length_eraseIdx_le _ _) h.ok.len,fun g j=>h.ok.fm g (List.mem_of_mem_eraseIdx j),h.ok.wm⟩⟩
  · obtain ⟨l, n⟩ := x2v b d j
    show lk (strike t.out f.id) g.id = _;rw [Av _ n];exact h.out.some_ g l
  · show lk (strike t.out f.id) c = none
    by_cases e : c = f.id
    · rw [e]; exact Dq _ _
    rw [Av _ e];refine h.out.none_ c fun o=>k ?_;show c ∈ (a.fly.eraseIdx i).map (·.id);rw [I8 b d,b.mem_erase_iff];exact ⟨e,o⟩
  show (a.used.erase f.id).Perm ((a.fly.eraseIdx i).map (·.id));rw [I8 b d];exact h.ok.perm.erase _
theorem Inv.recd (h : Inv t a) {i : Nat} {f : Fa} (s : a.fly[i]? = some f) (y : f.m.qos = 2) : ∃ t',Fz { t with out:=(f.id,((Nu f).1,(Nu f).2.1,true,(Nu f).2.2.2)) :: strike t.out f.id } [(Bq 6 f.id).pk] = some t' ∧ Inv t' { a with fly:=a.fly.set i { f with rc:=true,at_:=Bf now } }:=by
  have hn:=x7j h.ok;have v:=(List.getElem?_eq_some_iff.1 s).1;have n : f ∈ a.fly:=List.mem_of_getElem? s
  have x : ∀ g ∈ a.fly.set i { f with rc:=true,at_:=Bf now },g = { f with rc:=true,at_:=Bf now } ∨ (g ∈ a.fly ∧ g.id ≠ f.id):=fun g o=>by
    obtain ⟨j,w,e⟩:=List.mem_iff_getElem.1 o;rw [List.getElem_set] at e
    split at e
    · exact .inl e.symm
    rename_i hij
    rw [List.length_set] at w;refine .inr ⟨e ▸ List.getElem_mem _,fun z=>hij ?_⟩
    have l : (a.fly.map (·.id))[i]'(by simpa using v) = f.id:=by
      rw [List.getElem_map];exact congrArg Fa.id (List.getElem?_eq_some_iff.1 s).2
    have k : (a.fly.map (·.id))[j]'(by simpa using w) = f.id:=by rw [List.getElem_map,e,z]
    exact (List.getElem_inj hn).1 (l.trans k.symm)
  have d : (a.fly.set i { f with rc:=true,at_:=Bf now }).map (·.id) = a.fly.map (·.id):=by
    rw [List.map_set];show (a.fly.map (·.id)).set i f.id = _
    apply List.ext_getElem?
    intro j;rw [List.getElem?_set]
    by_cases e : i = j
    · subst e
      rw [if_pos rfl,if_pos (by simpa using v),List.getElem?_map,s]; rfl
    rw [if_neg e]
  generalize q : ({ t with out:=(f.id,((Nu f).1,(Nu f).2.1,true,(Nu f).2.2.2)) :: strike t.out f.id } : Tr) = t1
  have hr : t1.readyB = true:=by rw [← q]; exact h.calm.ready
  have u : lk t1.out f.id = some ((Nu f).1,(Nu f).2.1,true,(Nu f).2.2.2):=by rw [← q]; show lk ((_,_) :: _) _ = _; rw [Bl,if_pos rfl]
  have hx : t1.outT (Bq 6 f.id).pk = (true,{ t1 with out:=(f.id,((Nu f).1,(Nu f).2.1,true,true)) :: strike t1.out f.id }):=by
    unfold Tr.outT;rw [if_neg (by show ¬ (6 : Int) = 2; decide),if_neg (by rw [hr]; simp),if_neg (by show ¬ (6 : Int) = 3; decide),if_pos (by rfl)];unfold Tr.relT;rw [show (Bq 6 f.id).pk.id = f.id from rfl,u];simp only
    rw [if_neg (by
      rintro (h | h)
      · exact h (by exact y)
      cases h)]
  refine ⟨_,Ds hx,?_,⟨fun g o=>?_,fun r b=>?_⟩,⟨?_,h.ok.nd,h.ok.tk,by show (a.fly.set i _).length ≤ 4; rw [List.length_set]; exact h.ok.len,fun g o=>?_,h.ok.wm⟩⟩
  · rw [← q]; exact (h.calm.setOut _).setOut _
  · show lk ((_, _) :: strike t1.out f.id) g.id = _
    rcases x g o with rfl | ⟨l,k⟩
    · rw [Bl,if_pos (by rfl)]; rfl
    rw [Bl,if_neg (fun e=>k e.symm),Av _ k,← q];show lk ((_,_) :: strike t.out f.id) g.id = _;rw [Bl,if_neg (fun e=>k e.symm),Av _ k];exact h.out.some_ g l
  · have b : r ∉ a.fly.map (·.id) := by rw [← d]; exact b
    have c : r ≠ f.id:=fun e=>b (e ▸ List.mem_map_of_mem n);show lk ((_,_) :: strike t1.out f.id) r = _;rw [Bl,if_neg (fun e=>c e.symm),Av _ c,← q];show lk ((_,_) :: strike t.out f.id) r = _;rw [Bl,if_neg (fun e=>c e.symm),Av _ c];exact h.out.none_ r b
  · show a.used.Perm ((a.fly.set i _).map (·.id))
    rw [d]; exact h.ok.perm
  rcases x g o with rfl | ⟨l,_⟩
  · exact ⟨(h.ok.fm f n).1,fun _=>y⟩
  exact h.ok.fm g l
theorem Inv.ack (h : Inv t a) (w : p.kind = 4 ∨ p.kind = 5 ∨ p.kind = 7) : ∃ t',Fz (t.inT p) ((ackS a p.kind p.id now).2.map Pa.pk) = some t' ∧ Inv t' (ackS a p.kind p.id now).1:=by
  have o:=V7 h.calm (p:=p) (by omega);have e : t.inT p = t.ackT p:=by unfold Tr.inT; rw [if_neg o,if_neg (by omega),if_neg (by omega),if_pos (by omega)]
  rw [e];unfold Tr.ackT;rw [if_neg (by omega)]
  rcases idx_find (l:=a.fly.map (·.id)) (id:=p.id) (k:=0) with ⟨d,n⟩ | ⟨i,d,n⟩
  · rw [h.out.none_ p.id n]
    have : ackS a p.kind p.id now = (a,[]):=by
      unfold ackS;simp only;rw [d]
      split
      · rfl
      rw [if_pos (by decide)]
    rw [this];exact ⟨t,rfl,h⟩
  obtain ⟨f,j,c⟩:=x7m n;have q : lk t.out p.id = some (Nu f):=by rw [← c]; exact h.out.some_ f (List.mem_of_getElem? j)
  rw [q]
  have u : ackS a p.kind p.id now = if (p.kind = 4 ∧ f.m.qos = 1) ∨ (p.kind = 7 ∧ f.rc = true) then Hg a i f.id now else if p.kind = 5 ∧ f.m.qos = 2 then ({ a with fly:=a.fly.set i { f with rc:=true,at_:=Bf now } },[Bq 6 f.id]) else (a,[]):=by
    have v : a.fly[(Gu (a.fly.map (·.id)) p.id 0).toNat]? = some f:=by rw [d,show ((0 : Int) + (i : Int)).toNat = i by omega]; exact j
    unfold ackS;simp only;rw [v];simp only;rw [d,if_neg (by omega),show ((0 : Int) + (i : Int)).toNat = i by omega]
  rw [u];simp only;have r : (Nu f).1.qos = f.m.qos:=rfl;have s : (Nu f).2.2.2 = f.rc:=rfl;rw [r,s]
  by_cases g : (p.kind = 4 ∧ f.m.qos = 1) ∨ (p.kind = 7 ∧ f.rc = true)
  · rw [if_pos g, if_pos g, ← c]
    unfold Hg;exact (h.gone j).drain
  rw [if_neg g,if_neg g]
  by_cases b : p.kind = 5 ∧ f.m.qos = 2
  · rw [if_pos b, if_pos b, ← c]
    exact h.recd j b.2
  rw [if_neg b,if_neg b];exact ⟨t,rfl,h⟩
end
end Go.Proofs.YtkdeedhjkjffpaaGreat
namespace Go.Proofs.YtkdeedhjkjffpaaGreat
open Go.RowKit Go.Hub
structure MOk (m : Ms) : Prop where
  q : 0 ≤ m.qos ∧ m.qos ≤ 2
  t : K3 m.tp = true
  ts : m.tp.size ≤ 100
  p : m.pay.length ≤ 20
structure TOk (a : SA) : Prop where
  fl : ∀ f ∈ a.fly,MOk f.m ∧ 1 ≤ f.m.qos ∧ 1 ≤ f.id ∧ f.id ≤ 65535
  wt : ∀ m ∈ a.wait,MOk m
def PkR (p : Pk) : Prop:=RightP p ∧ p.Len
def H3 (x : Pa) : Prop:=PkR x.pk
theorem y1i (l : List UInt8) : (Dh l).length = 2 + l.length:=by unfold Dh F9; simp; omega
theorem Ud (n : Int) : (F9 n).length = 2:=by unfold F9; rfl
theorem Mz {p : Pk} (h : p.pay.length ≤ 1000) (b : p.wp = []) (c : p.pass = []) (a : p.subs = []) (i : p.codes.length ≤ 1000) (j : p.topic.size ≤ 1000) (d : p.client = ⟨#[]⟩) (f : p.wt = ⟨#[]⟩) (g : p.user = ⟨#[]⟩) : p.Len:=by
  exact ⟨by omega,by rw [b]; exact Nat.zero_le _,by rw [c]; exact Nat.zero_le _,by rw [a]; exact Nat.zero_le _,by omega,by omega,by rw [d]; exact Nat.zero_le _,by rw [f]; exact Nat.zero_le _,by rw [g]; exact Nat.zero_le _,by rw [a]; simp⟩
theorem M0 {m : Ms} {id : Int} {d : Bool} (h : MOk m) (hi : m.qos = 0 ∧ id = 0 ∧ d = false ∨ 1 ≤ m.qos ∧ 1 ≤ id ∧ id ≤ 65535) : H3 (D0 m id d):=by
  refine ⟨⟨rfl,?_,?_,?_,by show (3 : Int) ≠ 1 ∧ (3 : Int) ≠ 8 ∧ (3 : Int) ≠ 10; decide⟩,Mz (by show m.pay.length ≤ _; have:=h.p; omega) rfl rfl rfl (by show (0 : Nat) ≤ _; omega) (by show m.tp.size ≤ _; have:=h.ts; omega) rfl rfl rfl⟩
  · unfold Ak
    rw [if_neg (by show ¬ (3 : Int) = 1; decide),if_neg (by show ¬ (3 : Int) = 2; decide),if_pos (by rfl)];show Pa.pk _ = _
    rcases hi with ⟨a,b,c⟩ | ⟨a,_⟩
    · simp [Pa.pk,D0,a,b,c]
    have : 0 < m.qos:=by omega
    simp [Pa.pk,D0,this]
  · have l := h.t
    have n:=h.q;unfold Nf Bv;rw [if_pos (show (D0 m id d).pk.kind = 3 from rfl),if_neg (by show ¬ (3 : Int) = 1; decide),if_neg (by show ¬ (3 : Int) = 2; decide),if_pos (show (D0 m id d).pk.kind = 3 from rfl)];show ((!decide (0 < m.qos) || Da id 1 65535) && (Da m.qos 0 2 && K3 m.tp)) = true;rw [l]
    rcases hi with ⟨a,b,c⟩ | ⟨a,b⟩
    · rw [a]; rfl
    simp [Da]; omega
  unfold Ac Bv;rw [if_neg (by show ¬ (3 : Int) = 1; decide),if_neg (by show ¬ (3 : Int) = 2; decide),if_pos (show (D0 m id d).pk.kind = 3 from rfl),if_pos (show (D0 m id d).pk.kind = 3 from rfl)];have b:=h.p;have c:=h.ts;have f : (D0 m id d).pk.subs = []:=rfl;have g : (D0 m id d).pk.codes = []:=rfl;have i : (D0 m id d).pk.pay = m.pay:=rfl;have j : (D0 m id d).pk.topic = m.tp:=rfl;rw [f,g,i,j];have k : m.tp.toList.length = m.tp.size:=Bh _;simp only [List.flatMap_nil,List.map_nil,List.append_nil,List.length_append,y1i,k]
  split <;> simp [Ud] <;> omega
theorem Gn {k id : Int} (g : 4 ≤ k ∧ k ≤ 7 ∨ k = 11) (hi : 1 ≤ id ∧ id ≤ 65535) : PkR (Bq k id).pk:=by
  refine ⟨⟨?_,?_,?_,?_,?_⟩,Mz (by show (0 : Nat) ≤ _; omega) rfl rfl rfl (by show (0 : Nat) ≤ _; omega) (by show (0 : Nat) ≤ _; omega) rfl rfl rfl⟩
  all_goals have e : (Bq k id).pk.kind = k:=rfl
  · rw [e]; simp [Da]; omega
  · have f : Bv (Bq k id).pk = true := by unfold Bv; rw [e, if_neg (by omega)]; simp [Da]; omega
    unfold Ak;rw [e,if_neg (by omega),if_neg (by omega),if_neg (by omega),if_neg (by omega),if_neg (by omega),if_pos f]
    rfl
  · have a : (Bq k id).pk.id = id := rfl
    unfold Nf;rw [e,a,if_neg (by omega),if_neg (by omega),if_neg (by omega),if_neg (by omega),if_neg (by omega),if_neg (by omega)];simp [Da]; omega
  · unfold Ac
    rw [e,if_neg (by omega),if_neg (by omega),if_neg (by omega)];have b : (Bq k id).pk.subs = []:=rfl;have c : (Bq k id).pk.codes = []:=rfl;have d : (Bq k id).pk.pay = []:=rfl;rw [b,c,d]
    split <;> simp [Ud]
  rw [e]; omega
theorem H4 : PkR { kind:=13 }:=by
  refine ⟨⟨by decide,Hq.1 (by decide),by decide,by decide,by decide⟩,?_⟩
  constructor <;> decide
theorem I9 : PkR { kind:=2 }:=by
  refine ⟨⟨by decide,Hq.1 (by decide),by decide,by decide,by decide⟩,?_⟩
  constructor <;> decide
theorem S7 {id : Int} {l : List Int} (hi : 1 ≤ id ∧ id ≤ 65535) (b : 0 < l.length) (c : l.length ≤ 100) (a : Qv l = true) : PkR { kind:=9,id:=id,codes:=l }:=by
  refine ⟨⟨rfl,rfl,?_,?_,by show (9 : Int) ≠ 1 ∧ (9 : Int) ≠ 8 ∧ (9 : Int) ≠ 10; decide⟩,Mz (by show (0 : Nat) ≤ _; omega) rfl rfl rfl (by show l.length ≤ 1000; omega) (by show (0 : Nat) ≤ _; omega) rfl rfl rfl⟩
  · unfold Nf
    show ((!true || Da id 1 65535) && (decide (0 < l.length) && Qv l)) = true;rw [a];simp [Da]; omega
  unfold Ac;show (([] : List UInt8) ++ F9 id ++ [] ++ l.map b8 ++ []).length ≤ 127;simp [Ud]; omega
section
variable {t : Tr} {a : SA} {m : Ms} {now : Int}
theorem TOk.rise (h : TOk a) (i : Inv t a) (c : MOk m) (d : 1 ≤ m.qos) (k : a.fly.length < 4) : H3 (Fh a m) ∧ TOk (Hf a m now):=by
  obtain ⟨_,g,j⟩:=x0g i.ok k;refine ⟨M0 c (.inr ⟨d,g,j⟩),⟨fun f b=>?_,h.wt⟩⟩
  rcases List.mem_append.1 b with b | b
  · exact h.fl f b
  obtain rfl:=List.mem_singleton.1 b;exact ⟨c,d,g,j⟩
theorem TOk.drainN : ∀ (k : Nat) {t : Tr} {a : SA}, TOk a → Inv t a → (∀ x ∈ (drainN k a now).2, H3 x) ∧ TOk (drainN k a now).1
  | 0,t,a,h,i=>⟨fun x hx=>(by cases hx),h⟩
  | k + 1,t,a,h,i=>by
    unfold Go.Proofs.YtkdeedhjkjffpaaGreat.drainN
    split
    · rename_i hl
      split
      · exact ⟨fun x hx=>(by cases hx),h⟩
      rename_i m r hw
      have i1 : Inv t { a with wait:=r }:=i.setWait (fun x hx=>i.ok.wm x (by rw [hw]; simp [hx])) a.lost
      have c : TOk { a with wait:=r }:=⟨h.fl,fun x hx=>h.wt x (by rw [hw]; simp [hx])⟩
      have b:=i.ok.wm m (by rw [hw]; simp)
      obtain ⟨o,_,j⟩:=i1.rise (now:=now) b hl
      obtain ⟨l,d⟩:=c.rise (now:=now) i1 (h.wt m (by rw [hw]; simp)) (by rcases b with g | g <;> omega) hl
      obtain ⟨n,f⟩:=TOk.drainN k d j
      exact ⟨fun x hx=>(List.mem_cons.1 hx).elim (fun e=>e ▸ l) (n x),f⟩
    exact ⟨fun x hx=>(by cases hx),h⟩
theorem TOk.drain (h : TOk a) (i : Inv t a) : (∀ x ∈ (drainS a now).2,H3 x) ∧ TOk (drainS a now).1:=h.drainN 5 i
theorem TOk.send (h : TOk a) (i : Inv t a) (c : MOk m) (d : Bool) : (∀ x ∈ (sendS a m d now).2,H3 x) ∧ TOk (sendS a m d now).1:=by
  unfold sendS
  split
  · rename_i h0
    exact ⟨fun x b=>by obtain rfl:=List.mem_singleton.1 b; exact M0 c (.inl ⟨h0.1,rfl,rfl⟩),h⟩
  split
  · exact ⟨fun x b=>(by cases b),h⟩
  rename_i h1 h2
  split
  · rename_i h3
    obtain ⟨g,f⟩:=h.rise (now:=now) i c (by omega) h3.2.1;exact ⟨fun x b=>by obtain rfl:=List.mem_singleton.1 b; exact g,f⟩
  refine ⟨fun x b=>(by cases b),?_⟩;unfold Pj
  split
  · exact ⟨h.fl,fun x b=>(List.mem_append.1 b).elim (h.wt x) (fun b=>by obtain rfl:=List.mem_singleton.1 b; exact c)⟩
  exact ⟨h.fl,h.wt⟩
theorem TOk.fly (h : TOk a) (l : List Fa) (j : ∀ f ∈ l,∃ g ∈ a.fly,g.m = f.m ∧ g.id = f.id) : TOk { a with fly:=l }:=⟨fun f d=>by
  obtain ⟨g,i,b,c⟩:=j f d
  have:=h.fl g i
  rw [b,c] at this
  exact this,h.wt⟩
theorem V9 {ago : Int} : ∀ {l : List Fa}, (∀ f ∈ l, MOk f.m ∧ 1 ≤ f.m.qos ∧ 1 ≤ f.id ∧ f.id ≤ 65535) → ∀ x ∈ (againF now ago l).2, H3 x
  | [],_,x,hx=>by cases hx
  | f :: r,h,x,hx=>by
    have hr:=V9 (ago:=ago) (l:=r) fun g j=>h g (by simp [j])
    unfold againF at hx
    simp only at hx
    split at hx
    · exact hr x hx
    rcases List.mem_cons.1 hx with rfl | hx
    · obtain ⟨d, i, b, c⟩ := h f (by simp)
      split
      · exact Gn (.inl ⟨by omega,by omega⟩) ⟨b,c⟩
      exact M0 d (.inr ⟨i,b,c⟩)
    exact hr x hx
theorem TOk.again (h : TOk a) (ago : Int) : (∀ x ∈ (againS a now ago).2,H3 x) ∧ TOk (againS a now ago).1:=by
  refine ⟨V9 h.fl,h.fly _ fun f d=>?_⟩;obtain ⟨g,i,b,c,_⟩:=V6 (Mx (now:=now) ago a.fly) f d;exact ⟨g,i,b,c⟩
theorem TOk.got (h : TOk a) {k q id : Int} (hi : 1 ≤ id ∧ id ≤ 65535) : (∀ x ∈ (gotS a k q id).2.2,H3 x) ∧ TOk (gotS a k q id).1:=by
  unfold gotS
  repeat' split
  all_goals refine ⟨fun x b=>?_,⟨h.fl,h.wt⟩⟩
  all_goals first | (cases b; done) | (obtain rfl:=List.mem_singleton.1 b; exact Gn (.inl ⟨by omega,by omega⟩) hi)
theorem TOk.gotP (h : TOk a) {q id : Int} (hi : 0 < q → 1 ≤ id ∧ id ≤ 65535) : (∀ x ∈ (gotS a 3 q id).2.2,H3 x) ∧ TOk (gotS a 3 q id).1:=by
  by_cases b : 0 < q
  · exact h.got (hi b)
  unfold gotS;rw [if_neg (by decide)]
  repeat' split
  all_goals first | (exfalso; omega) | exact ⟨fun x c=>(by cases c),⟨h.fl,h.wt⟩⟩
theorem TOk.ack (h : TOk a) (i : Inv t a) {k id : Int} : (∀ x ∈ (ackS a k id now).2,H3 x) ∧ TOk (ackS a k id now).1:=by
  rcases idx_find (l:=a.fly.map (·.id)) (id:=id) (k:=0) with ⟨n,p⟩ | ⟨j,n,p⟩
  · have : ackS a k id now = (a,[]):=by
      unfold ackS;simp only;rw [n]
      split
      · rfl
      rw [if_pos (by decide)]
    rw [this];exact ⟨fun x d=>(by cases d),h⟩
  obtain ⟨f,o,w⟩:=x7m p;have b:=List.mem_of_getElem? o
  have u : ackS a k id now = if (k = 4 ∧ f.m.qos = 1) ∨ (k = 7 ∧ f.rc = true) then Hg a j f.id now else if k = 5 ∧ f.m.qos = 2 then ({ a with fly:=a.fly.set j { f with rc:=true,at_:=Bf now } },[Bq 6 f.id]) else (a,[]):=by
    have v : a.fly[(Gu (a.fly.map (·.id)) id 0).toNat]? = some f:=by rw [n,show ((0 : Int) + (j : Int)).toNat = j by omega]; exact o
    unfold ackS;simp only;rw [v];simp only;rw [n,if_neg (by omega),show ((0 : Int) + (j : Int)).toNat = j by omega]
  rw [u]
  split
  · unfold Hg
    have s : TOk { a with used:=a.used.erase f.id,fly:=a.fly.eraseIdx j }:=⟨fun g c=>h.fl g (List.mem_of_mem_eraseIdx c),h.wt⟩;exact s.drain (i.gone o)
  split
  · obtain ⟨y, z, q, r⟩ := h.fl f b
    refine ⟨fun x d=>by obtain rfl:=List.mem_singleton.1 d; exact Gn (.inl ⟨by omega,by omega⟩) ⟨q,r⟩,h.fly _ fun g c=>?_⟩
    rcases List.mem_or_eq_of_mem_set c with c | rfl
    · exact ⟨g,c,rfl,rfl⟩
    exact ⟨f,b,rfl,rfl⟩
  exact ⟨fun x d=>(by cases d),h⟩
end
end Go.Proofs.YtkdeedhjkjffpaaGreat
namespace Go.Proofs.YtkdeedhjkjffpaaGreat
open Go.RowKit Go.Hub Go.Lib
theorem Zn2 (a : ByteArray) (b : Option Addr) (d f : Nat) (c : Int) : Tryz.prog.built 58 [(0,.string a),(1,.slice b d f),(2,.int .i64 c)] = some #[.string a,.slice b d f,.int .i64 c,(.bool false)]:=by kernel_rfl
section
variable {P : Program} {ops : Array Oper} {Q : Exit → Act → World → Prop} {S : World → Prop} {a : Act} {w : World} {n : Nat} {l : FL} {t ty : TypeId} {x y : Operand} {ps : String} {af : Array Edge} {gd : Option (Nat × Bool)} {i : Nat} {K : Act → World → Prop}
theorem _root_.Go.Hub.OS.storeR (f : Fr n a l) (c : ops[i]? = some ⟨none, .store t x y, ty, ps, af, gd⟩) (hw : Region.wanted ⟨none, .store t x y, ty, ps, af, gd⟩ (yielded ops a.tmps) = true) {g : Nat} {e : TypeId} {cs b : Array Value} {s : Nat} (hi : (P.info? t).map (·.size) = some s) (p : Ae l x = some (.pointer (some ⟨g, 0, none⟩))) (q : Ae l y = some (.agg b)) (h : b.toList.all (·.oneCell') = true)
    (B : Blk w g e cs) (o : b.size = cs.size) (m : b.size = s) (k : ∀ w',Kept [g] w w' → S w') (j : ∀ a' w',Fr n a' l → Blk w' g e b → Kept [g] w w' → K a' w') : wpOp P ops Q i (fun a w=>S w ∧ K a w) a w:=
  O.act (S:=S) f c rfl hw (E.storeR f (m ▸ hi) p q (by simpa using h) (B.there (by omega))) (k _ (B4 w g 0 _)) fun a' d=>j a' _ d (Hm B b o) (B4 w g 0 _)
end
theorem PkAt.k0 {B : Nat} {a w w' : World} {A : Option Addr} {c : Nat} {l : List Pc} (h : PkAt B a w A c l) (b : Kept [] w w') : PkAt B a w' A c l:=h.mod (T:=[]) (M:=[]) (.o0 b) (by simp)
structure LsOk (l : FE) : Prop where
  asc : Jf l
  ok : ∀ p ∈ l,Bp p.1 = true ∧ 0 ≤ p.2 ∧ p.2 ≤ 2 ∧ p.1.size ≤ 100000
  len : l.length ≤ 1000000
structure Rs.Lk (s s' : Rs) : Prop where
  im : s'.im = s.im
  gm : s'.gm = s.gm
  ls : s'.ls = s.ls
theorem x7n {l : FE} {k : Nat} {x : ByteArray × Int} (h : Jf l) (c : l[k]? = some x) : ∀ p ∈ l.take k,p.1 ≠ x.1:=fun p b e=>by
  obtain ⟨j,a⟩:=List.mem_iff_getElem?.1 b
  rw [List.getElem?_take] at a
  split at a
  · rename_i hjk
    have:=x5v h a hjk c
    rw [e] at this
    exact D3 _ this
  cases a
theorem Ja {l : FE} {k : Nat} {x : ByteArray × Int} (a : l[k]? = some x) : l.take (k + 1) = l.take k ++ [(x.1,x.2)]:=by rw [List.take_add_one,a]; rfl
theorem y7s {w W a : World} (h : Kept [] w W) (k : Below w.heap.size W a) : Kept [] w a:=⟨k.os.trans h.os,k.tape.trans h.tape,k.output.trans h.output,Nat.le_trans h.size k.size,fun x b c=>(k.block x b).trans (h.block x b c)⟩
theorem x7o {w : World} {a : Nat} {s : Rs} (b : Blk w a 111 s.cells) (h : s.cl = kk) : w.cell? ⟨a,0 + 0,none⟩ = some (.string kk):=by
  have : w.cell? ⟨a,0 + 0,none⟩ = some (.string s.cl):=b.cl rfl;rw [this,h]
theorem x7p {l : FE} {d : ByteArray} {w : World} {q : Int} {fn : Nat} {a : Array Value} (g : H2 l d = some q) (h : Calls Tryz.prog fn a w (Ub l d w)) : Calls Tryz.prog fn a w (fun e w'=>∃ A c,e = .returned (.slice A 1 c) ∧ Kept [] w w' ∧ Fresh w w' 118 2 A 1 c (hc q)):=h.mono fun e w'=>by
  rintro ⟨A,c,rfl,f,b⟩
  rw [g] at b ⊢
  exact ⟨A,c,rfl,f,b⟩
theorem x7q {l : FE} {b : ByteArray} {w : World} {fn : Nat} {a : Array Value} (f : H2 l b = none) (h : Calls Tryz.prog fn a w (Ub l b w)) : Calls Tryz.prog fn a w (fun e w'=>∃ A c,e = .returned (.slice A 0 c) ∧ Kept [] w w'):=h.mono fun e w'=>by
  rintro ⟨A,c,rfl,d,g⟩
  rw [f]
  exact ⟨A,c,rfl,d⟩
theorem Nv {h w W : World} {A : Option Addr} {c b a : Nat} {q : Int} (f : Kept [] w W) (F : Fresh h w 118 2 A 1 c (hc q)) (d : A = some ⟨b,a,none⟩) (j : Nat) {v : Value} (g : (hc q)[j]? = some v) : W.cell? ⟨b,a + ((0 : Nat) : Int).toNat * 2 + j,none⟩ = some v:=
  (F.sl.kept f).cell (j:=j) (by simp) d (by simpa using g)
theorem Bk.next {B b j f k : Nat} {w w' : World} {g : Option Addr} {at_ : Int} {i : Bool} {s d : Rs} {T : List TypeId} {M : List Nat} (h : Bk B w b j f g k at_ i s) (c : Mod T M B w w') (a : (29 : TypeId) ∉ T ∧ (93 : TypeId) ∉ T ∧ (76 : TypeId) ∉ T) (m : RefAt B w' f d) (l : d.cl = s.cl) : Bk B w' b j f g k at_ i d:=
  ⟨h.bb.mod c a.1,h.ro.mod c a.2.1,h.lk.mod c a.2.2,m,l.trans h.cl,h.lob,h.lol,h.loS⟩
def pcX (x : Pc) : Pk × Ad:=(x.p.pk,{ s0 with pa:=x.A,pc:=x.c })
theorem y5e (l : List Pc) : pkRow (l.map pcX) = l.flatMap pcell:=by
  unfold pkRow;rw [List.flatMap_map]
  rfl
theorem Gi (B : Nat) (l : List Pc) (A : Option Addr) (c : Nat) (m w : World) (g : B ≤ w.heap.size) (a : PkAt B m w A c l) (i : ∀ x ∈ l.map (·.p),H3 x) (j : l.length ≤ 1000) : Calls Tryz.prog 29 #[.int .i64 0,.slice A l.length c] w (Xt B ((l.map (·.p)).map Pa.pk) w):=by
  have h:=x6r B (l.map pcX) A c w g (by rw [List.length_map,y5e]; exact a.fr.sl) (fun x k=>by
    obtain ⟨y,b,rfl⟩:=List.mem_map.1 k;obtain ⟨d,f⟩:=i y.p (List.mem_map_of_mem b)
    exact ⟨⟨(a.pay y b).1.sl,Sl.nil _ _ _,Sl.nil _ _ _,Sl.nil _ _ _,Sl.nil _ _ _⟩,f,d⟩) (by rw [List.length_map]; exact j)
  rw [List.length_map] at h;have e : (l.map pcX).map (·.1) = (l.map (·.p)).map Pa.pk:=by rw [List.map_map,List.map_map]; rfl
  rw [e] at h;exact h
theorem OutsAt.put {B c f : Nat} {a w W : World} {A b : Option Addr} {o : List Oc} (O : OutsAt B a w A c o) (d : App w W 61 4 none 0 0 [] (o.flatMap ocell) o.length b f) (h : a.heap.size ≤ w.heap.size) : OutsAt B a W b f o:=by
  have F : Fresh a w 61 4 none 0 0 []:=Fresh.nil _ _ _ _;have k : Kept [] w W:=by simpa [Value.ownBlock] using d.kept
  exact ⟨by simpa using d.next F h,fun x g=>⟨(O.by_ x g).1.mod (T:=[]) (M:=[]) (.o0 k) (by simp),(O.by_ x g).2⟩⟩
def GiveD (B b lp sp : Nat) (SA : Option Addr) (sc : Nat) (at_ : Int) (cn : Bool) (s : Rs) (r : Go.Proofs.YtkdeedhjkjffpaaGreat.SA × List Pa) (w : World) (n : Nat) (A : Option Addr) (c : Nat) (W : World) : Prop:=
  ∃ s' o,n = (o : List Oc).length ∧ Bk B W b lp sp SA sc at_ cn s' ∧ Rs.Lk s s' ∧ Mod [111,185,143,160,58] [s.im,s.gm] B w W ∧ s'.abs = r.1 ∧ EncL o (r.2.map Pa.pk) ∧ OutsAt B w W A c o ∧ o.length ≤ 10
def Qg (B b lp sp : Nat) (SA : Option Addr) (sc : Nat) (at_ : Int) (cn : Bool) (s : Rs) (r : Go.Proofs.YtkdeedhjkjffpaaGreat.SA × List Pa) (w : World) (e : Ending) (w' : World) : Prop:=∃ A n c,e = .returned (.slice A n c) ∧ GiveD B b lp sp SA sc at_ cn s r w n A c w'
theorem x2w {B b g i h : Nat} {w a W : World} {d : Option Addr} {at_ : Int} {f : Bool} {s : Rs} (K : Bk B a b g i d h at_ f s) (c : Kept [] a W) (j : Kept [] w a) : Qg B b g i d h at_ f s (s.abs,[]) w (.returned (.slice none 0 0)) W:=
  ⟨none,0,0,rfl,s,[],rfl,K.k0 c,⟨rfl,rfl,rfl⟩,.o0 (j.z c),rfl,EncL.nil,OutsAt.nil _ _ _,by simp⟩
theorem x2x (b lp sp : Nat) (SA : Option Addr) (sc : Nat) (at_ : Int) (cn : Bool) (s : Rs) (B : Nat) (m : Ms) (Am : Option Addr) (cm : Nat) (now : Int) (w : World) (K : Bk B w b lp sp SA sc at_ cn s) (HP : Pay B w Am m.pay) (HL : LsOk s.ls) (b7 : m.tp.size ≤ 100000) (hB : B ≤ w.heap.size) (c7 : 0 ≤ s.lost ∧ s.lost ≤ 1000000000) (hq : H2 s.ls m.tp = none) : Calls Tryz.prog 10 #[.pointer (some ⟨b,0,none⟩),.agg (mcell ⟨m,Am,cm⟩).toArray,.int .i64 now] w (Qg B b lp sp SA sc at_ cn s (s.abs,[]) w):=by
 have HK : Kept [] w w:=Kept.refl [] w;obtain ⟨bS,oS,a2⟩:=(Sl.oO K.ro).addr (by omega);have b6:=HL.len;refine Bw Tryz.func10 Tryz.ntmps10 fun _ f=>?_;refine C.sk fun _ v=>?_;refine L.box f Aa (by decide) rfl rfl fun _ w1 g0 N f=>?_;obtain ⟨a9,q,aq,bi,bm⟩:=N.al;have bd:=HK.lo aq;replace HK:=HK.z q;clear N q;refine pe f v fun _ f=>?_;refine wp_seq_k fun _ v=>?_;obtain ⟨gm,rfl⟩ : ∃ g,g = g0:=⟨_,rfl⟩;have a5 : Blk w1 gm 58 (mcell ⟨m,Am,cm⟩).toArray:=a9;clear a9;have ab:=HK;have j:=K.k0 HK;have ad:=HP.k0 HK;have h:=Kept.refl [] w1;refine C.region ?_;refine L.alloc f Aa (by decide) (z:=(.agg #[(.slice none 0 0)])) (fun _=>by kernel_rfl) rfl fun _ w2 g1 N f=>?_;obtain ⟨aa,q,ar,bj,bn⟩:=N.al;have ae:=h.lo ar;replace h:=h.trans q (by simp);clear N q;refine wn v ?_;refine wp_seq_k fun _ v=>?_;refine wp_seq_k fun _ k2=>?_;obtain ⟨gt,rfl⟩ : ∃ g,g = g1:=⟨_,rfl⟩;have y : Blk w2 gt 105 #[.slice none 0 0]:=aa;clear aa;have b4 : w1.heap.size ≤ gt:=ae;have FT : Fresh w1 w2 156 3 none 0 0 []:=Fresh.nil _ _ _ _;refine Ib f k2 fun _ f=>?_;refine wp_block ?_
 refine C.loop (fun gk a W=>∃ (i : Nat) (l : FE) (r : Option Addr) (u : Nat),i + gk = 1 ∧ (i = 0 ∧ l = [] ∨ i = 1 ∧ l = s.ls) ∧ Kept [] w1 W ∧ Blk W gt 105 #[.slice r l.length u] ∧ Fresh w1 W 156 3 r l.length u (l.flatMap p3) ∧ Fr 128 a [(0,.pointer (some ⟨b,0,none⟩)),(2,.int .i64 now),(4,.pointer (some ⟨gm,0,none⟩)),(7,.pointer (some ⟨gt,0,none⟩)),(8,.int .i64 i)]) (1) ?_ ?_
 ·exact ⟨0,[],none,0,rfl,.inl ⟨rfl,rfl⟩,h,y,FT,f.sub (sx (sx (sx (sx (sx sn)))))⟩
 intro b2 _ w3 hI bx ai;obtain ⟨i,l,r,u,hi,ak,h,y,FT,d⟩:=hI
 try clear f
 refine wp_seq_k fun _ k2=>C.sk fun _ k3=>?_;refine L.s d fun _ f=>?_;(iterate 3 refine L.s f fun _ f=>?_);refine L.lo f ((j.bb.kept h (by simp)).cl rfl) fun _ f=>?_;refine pe f k3 fun _ f=>?_;refine f.sD 22 rfl (fun h0 f=>?_) (fun h0 f=>?_)
 ·obtain ⟨rfl,rfl⟩ : i = 0 ∧ l = []:=by rcases ak with h9 | h9; (exact h9); (exfalso; omega)
  refine C.cT f rfl ?_;refine wp_skip (k2 _ _ ?_);have d:=f.pk [0,2,4,7,8,16,17,18,19,20,21,22];refine wp_seq_k fun _ k2=>?_;refine wp_block ?_;refine pr d fun _ d=>?_;refine wp_block ?_;refine C.loop (fun gk a W=>∃ (k : Nat) (r : Option Addr) (u : Nat),k + gk = s.ls.length ∧ Kept [] w1 W ∧ Blk W gt 105 #[.slice r (s.ls.take k).length u] ∧ Fresh w1 W 156 3 r (s.ls.take k).length u ((s.ls.take k).flatMap p3) ∧ Fr 128 a [(0,.pointer (some ⟨b,0,none⟩)),(2,.int .i64 now),(4,.pointer (some ⟨gm,0,none⟩)),(7,.pointer (some ⟨gt,0,none⟩)),(8,.int .i64 ((0 : Nat) : Int)),(9,.int .i64 k)]) (s.ls.length) ?_ ?_
  ·exact ⟨0,r,u,by omega,h,y,FT,d.sub (sx (sx (sx (sx (sx (sx sn))))))⟩
  intro af _ w4 hI bz aj;obtain ⟨k,r,u,hk,h,y,FT,c⟩:=hI
  try clear d
  refine wp_seq_k fun _ k3=>C.sk fun _ k4=>?_;refine L.s c fun _ d=>?_;(iterate 3 refine L.s d fun _ d=>?_);refine L.lo d ((j.bb.kept h (by simp)).cl rfl) fun _ d=>?_;(iterate 2 refine L.s d fun _ d=>?_);refine L.lo d (Di (j.ro.kept h (by simp)) a2) fun _ d=>?_;(iterate 2 refine L.s d fun _ d=>?_);refine L.lo d ((j.se.top.kept h (by simp)).cl rfl) fun _ d=>?_;refine pe d k4 fun _ d=>?_;refine d.sD 37 rfl (fun h1 d=>?_) (fun h1 d=>?_)
  ·obtain ⟨x,hx⟩:=Bn s.ls k (by omega);obtain ⟨bL,oL,hA⟩:=(Sl.oO K.se.ls.own).addr (by omega);have ao:=List.mem_of_getElem? hx;refine C.cT d rfl ?_;refine wp_skip (k3 _ _ ?_);have c:=d.pk [0,2,4,7,8,9,25,26,27,28,29,30,31,32,33,34,35,36,37];refine wp_seq_k fun _ k3=>?_;refine wp_block ?_;have o:=dk w4 1;refine R.begin (S:=fun W=>(Kept [] w1 W)) (by kernel_rfl) (h.trans o (by simp)) ?_;obtain ⟨w5,a4⟩ : ∃ W,W = w4.drewN 1:=⟨_,rfl⟩;rw [← a4] at o ⊢;clear a4;have bp:=o.size;replace h:=h.trans o (by simp);replace y:=y.z o;replace FT:=FT.k0 o;clear o;refine rq [0,1,2] c fun _ c=>?_;refine R.t 3 c rfl h (fun W n=>(E.load c U27 rfl rfl (((j.bb.kept n (by simp)).cl rfl)))) fun _ c=>?_;refine rq [4,5] c fun _ c=>?_;refine R.t 6 c rfl h (fun W n=>(E.load c U93 rfl rfl ((Di (j.ro.kept n (by simp)) a2)))) fun _ c=>?_;refine rq [7,8] c fun _ c=>?_;refine R.t 9 c rfl h (fun W n=>(E.load c U36 rfl rfl (((j.se.top.kept n (by simp)).cl rfl)))) fun _ c=>?_;refine rq [10,11,12] c fun _ c=>?_;refine R.t 13 c rfl h (fun W n=>(E.load c U9 rfl rfl ((H9 (Sl.oO (j.se.ls.own.kept n (by simp))) hA hx 0 rfl)))) fun _ c=>?_;refine rq [14,15,16] c fun _ c=>?_;refine R.t 17 c rfl h (fun W n=>(E.load c U27 rfl rfl (((j.bb.kept n (by simp)).cl rfl)))) fun _ c=>?_
   refine rq [18,19] c fun _ c=>?_;refine R.t 20 c rfl h (fun W n=>(E.load c U93 rfl rfl ((Di (j.ro.kept n (by simp)) a2)))) fun _ c=>?_;refine rq [21,22] c fun _ c=>?_;refine R.t 23 c rfl h (fun W n=>(E.load c U9 rfl rfl ((x7o (j.se.top.kept n (by simp)) K.cl)))) fun _ c=>?_;refine rq [24,25,26] c fun _ c=>?_;refine R.t 27 c rfl h (fun W n=>(E.load c U27 rfl rfl (((j.bb.kept n (by simp)).cl rfl)))) fun _ c=>?_;refine rq [28,29] c fun _ c=>?_;refine R.t 30 c rfl h (fun W n=>(E.load c U93 rfl rfl ((Di (j.ro.kept n (by simp)) a2)))) fun _ c=>?_;refine rq [31,32] c fun _ c=>?_;refine R.t 33 c rfl h (fun W n=>(E.load c U36 rfl rfl (((j.se.top.kept n (by simp)).cl rfl)))) fun _ c=>?_;refine rq [34,35,36] c fun _ c=>?_;refine R.t 37 c rfl h (fun W n=>(E.load c U3 rfl rfl ((H9 (Sl.oO (j.se.ls.own.kept n (by simp))) hA hx 1 rfl)))) fun _ c=>?_;refine R.cl 38 c rfl (B5 Tryz.call35 (Q6 c rfl rfl rfl rfl)) (V3 gt (s.ls.take k) r u x.1 x.2 w1 _ h.size b4 y FT (x7n HL.asc hx) (HL.ok x ao).1 (HL.ok x ao).2.2.2 (by have:=List.length_take_le k s.ls; omega)) ?_;rintro e w6 ⟨A9,c9,rfl,q,ay,az⟩;have bq:=q.size;replace h:=y7s h q;refine ⟨_,rfl,h,fun _ c=>?_⟩;clear q;refine R.dn k3 ?_;refine C.region ?_;(iterate 3 refine L.s c fun _ c=>?_)
   refine wpList_nil (aj _ _ (af - 1) ?_ ?_)
   ·omega
   exact ⟨k + 1,A9,c9,by omega,h,by rw [Ja hx]; exact ay,by rw [Ja hx]; exact az,c.sub (sx (sx (sx (sx (sx (sx sn))))))⟩
  have b5 : s.ls.take k = s.ls:=List.take_of_length_le (by omega);rw [b5] at y FT;refine C.cF d rfl ?_;refine wp_exit (k2 _ _ ?_);refine C.region ?_;(iterate 3 refine L.s d fun _ d=>?_);refine wpList_nil (ai _ _ (b2 - 1) ?_ ?_)
  ·omega
  exact ⟨1,s.ls,r,u,by omega,.inr ⟨rfl,rfl⟩,h,y,FT,d.sub (sx (sx (sx (sx (sx sn)))))⟩
 obtain ⟨rfl,rfl⟩ : i = 1 ∧ l = s.ls:=by rcases ak with h9 | h9; (exfalso; omega); (exact h9)
 refine C.cF f rfl ?_;refine wp_exit (v _ _ ?_);refine C.sk fun _ v=>?_;refine L.s f fun _ f=>?_;refine L.lo f ((a5.z h).cl rfl) fun _ f=>?_;refine L.cl f (Bm f Tryz.call36) (x7q hq (Qf gt s.ls r u m.tp _ y FT.sl (fun p hp=>(HL.ok p hp).2.2.2) b7 b6)) ?_;rintro e w4 ⟨A6,c6,rfl,q⟩;refine ⟨_,rfl,fun _ f=>?_⟩;have bo:=q.size;replace h:=h.trans q (by simp);clear q;refine pe f v fun _ f=>?_;refine wp_seq_k fun _ v=>?_;have b1:=j.k0 h;have bw:=ad.k0 h;have bu:=a5.z h;have b0:=ab.z h;clear h j ad a5 ab;have h:=Kept.refl [] w4;refine Ib f v fun _ f=>?_;refine wp_seq_k fun _ v=>?_;refine pr f fun _ f=>?_;refine wp_block ?_;refine C.loop (fun gk a W=>Kept [] w4 W ∧ Fr 128 a [(0,.pointer (some ⟨b,0,none⟩)),(2,.int .i64 now),(4,.pointer (some ⟨gm,0,none⟩)),(10,.slice A6 0 c6),(11,.slice none 0 0),(12,.int .i64 0)]) (0) ?_ ?_
 ·exact ⟨h,f.sub (sx (sx (sx (sx (sx (sx sn))))))⟩
 intro bf _ w5 hI b8 b3;obtain ⟨h,d⟩:=hI
 try clear f
 refine wp_seq_k fun _ _=>C.sk fun _ k2=>?_;refine L.s d fun _ f=>?_;(iterate 3 refine L.s f fun _ f=>?_);have f:=f.as (i:=85) (v':=.bool false) rfl (by rfl);refine wn k2 ?_;refine C.cF f rfl ?_;refine wp_exit (v _ _ ?_);refine rt f ?_;exact x2w b1 h b0
theorem x2y (b lp sp : Nat) (SA : Option Addr) (sc : Nat) (at_ : Int) (cn : Bool) (s : Rs) (B : Nat) (m : Ms) (Am : Option Addr) (cm : Nat) (now : Int) (w : World) (K : Bk B w b lp sp SA sc at_ cn s) (HP : Pay B w Am m.pay) (HL : LsOk s.ls) (df : m.tp.size ≤ 100000) (hB : B ≤ w.heap.size) (bv : 0 ≤ s.lost ∧ s.lost ≤ 1000000000) (q : Int) (hq : H2 s.ls m.tp = some q) (bw : ∀ x ∈ (sendS s.abs ⟨m.tp,m.pay,min m.qos q,false⟩ true now).2,H3 x) : Calls Tryz.prog 10 #[.pointer (some ⟨b,0,none⟩),.agg (mcell ⟨m,Am,cm⟩).toArray,.int .i64 now] w (Qg B b lp sp SA sc at_ cn s (sendS s.abs ⟨m.tp,m.pay,min m.qos q,false⟩ true now) w):=by
 have HK : Kept [] w w:=Kept.refl [] w;obtain ⟨bS,oS,bf⟩:=(Sl.oO K.ro).addr (by omega);have de:=HL.len;refine Bw Tryz.func10 Tryz.ntmps10 fun _ f=>?_;refine C.sk fun _ k1=>?_;refine L.box f Aa (by decide) rfl rfl fun _ w1 g0 N f=>?_;obtain ⟨cb,r,cy,dp,ds⟩:=N.al;have dl:=HK.lo cy;replace HK:=HK.z r;clear N r;refine pe f k1 fun _ f=>?_;refine wp_seq_k fun _ k1=>?_;obtain ⟨gm,rfl⟩ : ∃ g,g = g0:=⟨_,rfl⟩;have br : Blk w1 gm 58 (mcell ⟨m,Am,cm⟩).toArray:=cb;clear cb;have ce:=HK;have v:=K.k0 HK;have cg:=HP.k0 HK;have h:=Kept.refl [] w1;refine C.region ?_;refine L.alloc f Aa (by decide) (z:=(.agg #[(.slice none 0 0)])) (fun _=>by kernel_rfl) rfl fun _ w2 g1 N f=>?_;obtain ⟨cc,r,cz,dq,dt⟩:=N.al;have cj:=h.lo cz;replace h:=h.trans r (by simp);clear N r;refine wn k1 ?_;refine wp_seq_k fun _ k1=>?_;refine wp_seq_k fun _ k2=>?_;obtain ⟨gt,rfl⟩ : ∃ g,g = g1:=⟨_,rfl⟩;have BT : Blk w2 gt 105 #[.slice none 0 0]:=cc;clear cc;have dc : w1.heap.size ≤ gt:=cj;have FT : Fresh w1 w2 156 3 none 0 0 []:=Fresh.nil _ _ _ _;refine Ib f k2 fun _ f=>?_;refine wp_block ?_
 refine C.loop (fun gk a W=>∃ (i : Nat) (l : FE) (At : Option Addr) (ct : Nat),i + gk = 1 ∧ (i = 0 ∧ l = [] ∨ i = 1 ∧ l = s.ls) ∧ Kept [] w1 W ∧ Blk W gt 105 #[.slice At l.length ct] ∧ Fresh w1 W 156 3 At l.length ct (l.flatMap p3) ∧ Fr 128 a [(0,.pointer (some ⟨b,0,none⟩)),(2,.int .i64 now),(4,.pointer (some ⟨gm,0,none⟩)),(7,.pointer (some ⟨gt,0,none⟩)),(8,.int .i64 i)]) (1) ?_ ?_
 ·exact ⟨0,[],none,0,rfl,.inl ⟨rfl,rfl⟩,h,BT,FT,f.sub (sx (sx (sx (sx (sx sn)))))⟩
 intro da _ w3 hI e4 cp;obtain ⟨i,l,At,ct,hi,cr,h,BT,FT,c⟩:=hI
 try clear f
 refine wp_seq_k fun _ k2=>C.sk fun _ k3=>?_;refine L.s c fun _ f=>?_;(iterate 3 refine L.s f fun _ f=>?_);refine L.lo f ((v.bb.kept h (by simp)).cl rfl) fun _ f=>?_;refine pe f k3 fun _ f=>?_;refine f.sD 22 rfl (fun h0 f=>?_) (fun h0 f=>?_)
 ·obtain ⟨rfl,rfl⟩ : i = 0 ∧ l = []:=by rcases cr with h9 | h9; (exact h9); (exfalso; omega)
  refine C.cT f rfl ?_;refine wp_skip (k2 _ _ ?_);have c:=f.pk [0,2,4,7,8,16,17,18,19,20,21,22];refine wp_seq_k fun _ k2=>?_;refine wp_block ?_;refine pr c fun _ c=>?_;refine wp_block ?_;refine C.loop (fun gk a W=>∃ (k : Nat) (At : Option Addr) (ct : Nat),k + gk = s.ls.length ∧ Kept [] w1 W ∧ Blk W gt 105 #[.slice At (s.ls.take k).length ct] ∧ Fresh w1 W 156 3 At (s.ls.take k).length ct ((s.ls.take k).flatMap p3) ∧ Fr 128 a [(0,.pointer (some ⟨b,0,none⟩)),(2,.int .i64 now),(4,.pointer (some ⟨gm,0,none⟩)),(7,.pointer (some ⟨gt,0,none⟩)),(8,.int .i64 ((0 : Nat) : Int)),(9,.int .i64 k)]) (s.ls.length) ?_ ?_
  ·exact ⟨0,At,ct,by omega,h,BT,FT,c.sub (sx (sx (sx (sx (sx (sx sn))))))⟩
  intro co _ w4 hI e5 cq;obtain ⟨k,At,ct,hk,h,BT,FT,d⟩:=hI
  try clear c
  refine wp_seq_k fun _ k3=>C.sk fun _ k4=>?_;refine L.s d fun _ c=>?_;(iterate 3 refine L.s c fun _ c=>?_);refine L.lo c ((v.bb.kept h (by simp)).cl rfl) fun _ c=>?_;(iterate 2 refine L.s c fun _ c=>?_);refine L.lo c (Di (v.ro.kept h (by simp)) bf) fun _ c=>?_;(iterate 2 refine L.s c fun _ c=>?_);refine L.lo c ((v.se.top.kept h (by simp)).cl rfl) fun _ c=>?_;refine pe c k4 fun _ c=>?_;refine c.sD 37 rfl (fun h1 c=>?_) (fun h1 c=>?_)
  ·obtain ⟨x,hx⟩:=Bn s.ls k (by omega);obtain ⟨bL,oL,hA⟩:=(Sl.oO K.se.ls.own).addr (by omega);have cw:=List.mem_of_getElem? hx;refine C.cT c rfl ?_;refine wp_skip (k3 _ _ ?_);have d:=c.pk [0,2,4,7,8,9,25,26,27,28,29,30,31,32,33,34,35,36,37];refine wp_seq_k fun _ k3=>?_;refine wp_block ?_;have ad:=dk w4 1;refine R.begin (S:=fun W=>(Kept [] w1 W)) (by kernel_rfl) (h.trans ad (by simp)) ?_;obtain ⟨w5,bm⟩ : ∃ W,W = w4.drewN 1:=⟨_,rfl⟩;rw [← bm] at ad ⊢;clear bm;have dv:=ad.size;replace h:=h.trans ad (by simp);replace BT:=BT.z ad;replace FT:=FT.k0 ad;clear ad;refine rq [0,1,2] d fun _ d=>?_;refine R.t 3 d rfl h (fun W hW=>(E.load d U27 rfl rfl (((v.bb.kept hW (by simp)).cl rfl)))) fun _ d=>?_;refine rq [4,5] d fun _ d=>?_;refine R.t 6 d rfl h (fun W hW=>(E.load d U93 rfl rfl ((Di (v.ro.kept hW (by simp)) bf)))) fun _ d=>?_;refine rq [7,8] d fun _ d=>?_;refine R.t 9 d rfl h (fun W hW=>(E.load d U36 rfl rfl (((v.se.top.kept hW (by simp)).cl rfl)))) fun _ d=>?_;refine rq [10,11,12] d fun _ d=>?_;refine R.t 13 d rfl h (fun W hW=>(E.load d U9 rfl rfl ((H9 (Sl.oO (v.se.ls.own.kept hW (by simp))) hA hx 0 rfl)))) fun _ d=>?_;refine rq [14,15,16] d fun _ d=>?_;refine R.t 17 d rfl h (fun W hW=>(E.load d U27 rfl rfl (((v.bb.kept hW (by simp)).cl rfl)))) fun _ d=>?_
   refine rq [18,19] d fun _ d=>?_;refine R.t 20 d rfl h (fun W hW=>(E.load d U93 rfl rfl ((Di (v.ro.kept hW (by simp)) bf)))) fun _ d=>?_;refine rq [21,22] d fun _ d=>?_;refine R.t 23 d rfl h (fun W hW=>(E.load d U9 rfl rfl ((x7o (v.se.top.kept hW (by simp)) K.cl)))) fun _ d=>?_;refine rq [24,25,26] d fun _ d=>?_;refine R.t 27 d rfl h (fun W hW=>(E.load d U27 rfl rfl (((v.bb.kept hW (by simp)).cl rfl)))) fun _ d=>?_;refine rq [28,29] d fun _ d=>?_;refine R.t 30 d rfl h (fun W hW=>(E.load d U93 rfl rfl ((Di (v.ro.kept hW (by simp)) bf)))) fun _ d=>?_;refine rq [31,32] d fun _ d=>?_;refine R.t 33 d rfl h (fun W hW=>(E.load d U36 rfl rfl (((v.se.top.kept hW (by simp)).cl rfl)))) fun _ d=>?_;refine rq [34,35,36] d fun _ d=>?_;refine R.t 37 d rfl h (fun W hW=>(E.load d U3 rfl rfl ((H9 (Sl.oO (v.se.ls.own.kept hW (by simp))) hA hx 1 rfl)))) fun _ d=>?_;refine R.cl 38 d rfl (B5 Tryz.call35 (Q6 d rfl rfl rfl rfl)) (V3 gt (s.ls.take k) At ct x.1 x.2 w1 _ h.size dc BT FT (x7n HL.asc hx) (HL.ok x cw).1 (HL.ok x cw).2.2.2 (by have:=List.length_take_le k s.ls; omega)) ?_;rintro e w6 ⟨A9,c9,rfl,r,d6,d7⟩;have d1:=r.size;replace h:=y7s h r;refine ⟨_,rfl,h,fun _ d=>?_⟩;clear r;refine R.dn k3 ?_;refine C.region ?_;(iterate 3 refine L.s d fun _ d=>?_)
   refine wpList_nil (cq _ _ (co - 1) ?_ ?_)
   ·omega
   exact ⟨k + 1,A9,c9,by omega,h,by rw [Ja hx]; exact d6,by rw [Ja hx]; exact d7,d.sub (sx (sx (sx (sx (sx (sx sn))))))⟩
  have dd : s.ls.take k = s.ls:=List.take_of_length_le (by omega);rw [dd] at BT FT;refine C.cF c rfl ?_;refine wp_exit (k2 _ _ ?_);refine C.region ?_;(iterate 3 refine L.s c fun _ c=>?_);refine wpList_nil (cp _ _ (da - 1) ?_ ?_)
  ·omega
  exact ⟨1,s.ls,At,ct,by omega,.inr ⟨rfl,rfl⟩,h,BT,FT,c.sub (sx (sx (sx (sx (sx sn)))))⟩
 obtain ⟨rfl,rfl⟩ : i = 1 ∧ l = s.ls:=by rcases cr with h9 | h9; (exfalso; omega); (exact h9)
 refine C.cF f rfl ?_;refine wp_exit (k1 _ _ ?_);refine C.sk fun _ k1=>?_;refine L.s f fun _ f=>?_;refine L.lo f ((br.z h).cl rfl) fun _ f=>?_;refine L.cl f (Bm f Tryz.call36) (x7p hq (Qf gt s.ls At ct m.tp _ BT FT.sl (fun p hp=>(HL.ok p hp).2.2.2) df de)) ?_;rintro e w4 ⟨A6,c6,rfl,r,FO⟩;refine ⟨_,rfl,fun _ f=>?_⟩;have du:=r.size;replace h:=h.trans r (by simp);clear r;refine pe f k1 fun _ f=>?_;refine wp_seq_k fun _ k1=>?_;have a4:=v.k0 h;have bs:=cg.k0 h;have e2:=br.z h;have ah:=ce.z h;clear h v cg br ce;have h:=Kept.refl [] w4;refine Ib f k1 fun _ f=>?_;refine wp_seq_k fun _ k1=>?_;refine pr f fun _ f=>?_;refine wp_block ?_;refine C.loop (fun gk a W=>∃ (i : Nat) (A5 : Option Addr) (c5 n5 : Nat),i + gk = 1 ∧ ((i = 0 ∧ n5 = 0 ∧ A5 = none ∧ c5 = 0 ∧ Kept [] w4 W) ∨ (i = 1 ∧ GiveD B b lp sp SA sc at_ cn s (sendS s.abs ⟨m.tp,m.pay,min m.qos q,false⟩ true now) w n5 A5 c5 W)) ∧ Fr 128 a [(0,.pointer (some ⟨b,0,none⟩)),(2,.int .i64 now),(4,.pointer (some ⟨gm,0,none⟩)),(10,.slice A6 1 c6),(11,.slice A5 n5 c5),(12,.int .i64 i)]) (1) ?_ ?_
 ·exact ⟨0,none,0,0,rfl,.inl ⟨rfl,rfl,rfl,rfl,h⟩,f.sub (sx (sx (sx (sx (sx (sx sn))))))⟩
 intro au _ w5 hI di ac;obtain ⟨i,A5,c5,n5,hi,hI,c⟩:=hI
 try clear f
 refine wp_seq_k fun _ k2=>?_;refine pr c fun _ f=>?_;refine f.sD 85 rfl (fun h2 f=>?_) (fun h2 f=>?_)
 ·obtain ⟨rfl,rfl,rfl,rfl,h⟩ : i = 0 ∧ n5 = 0 ∧ A5 = none ∧ c5 = 0 ∧ Kept [] w4 w5:=by rcases hI with h9 | h9; (exact h9); (exfalso; omega)
  refine C.cT f rfl ?_;refine wp_skip (k2 _ _ ?_);have c:=f.pk [0,2,4,10,11,12,82,83,84,85];refine wp_seq_k fun _ k2=>?_;refine wp_block ?_;refine wp_seq_k fun _ k3=>?_;obtain ⟨b1,o1,bd⟩:=FO.sl.addr (by simp);refine C.region ?_;(iterate 4 refine L.s c fun _ c=>?_);refine L.va c (E.fa 0 c Tryz.underlying118 rfl Z2) fun _ c=>?_;refine L.lo c (Nv h FO bd 0 rfl) fun _ c=>?_;refine L.cl c (Bm c Tryz.call37) (y4i b lp sp SA sc at_ cn s B _ (a4.k0 h)) ?_;rintro e eg ⟨rfl,rfl⟩;refine ⟨_,rfl,fun _ c=>?_⟩;refine pe c k3 fun _ c=>?_;refine wp_seq_k fun _ k3=>?_;have a8:=dk w5 1;refine R.begin (S:=fun W=>(Kept [] w4 W)) (by kernel_rfl) (h.trans a8 (by simp)) ?_;obtain ⟨w6,bn⟩ : ∃ W,W = w5.drewN 1:=⟨_,rfl⟩;rw [← bn] at a8 ⊢;clear bn;have d1:=a8.size;replace h:=h.trans a8 (by simp);clear a8;refine rq [0,1,2,3,4,5,6,7,8] c fun _ c=>?_;refine R.p 9 c rfl h (E.fa 1 c Tryz.underlying118 rfl Z0) fun _ c=>?_;refine R.t 10 c rfl h (fun W hW=>(E.load c U3 rfl rfl ((Nv hW FO bd 1 rfl)))) fun _ c=>?_;refine R.p 11 c rfl h (E.min c rfl rfl) fun _ c=>?_;refine R.p 12 c rfl h (E.build c (pL c rfl) (Zn2 _ _ _ _ _)) fun _ c=>?_;refine R.on 13 ?_
  refine O.alloc c rfl Aa (by decide) (z:=(.agg #[(.string ⟨#[]⟩),(.slice none 0 0),(.int .i64 0),(.bool false)])) (fun _=>by kernel_rfl) rfl (fun _ hk=>h.trans hk (by simp)) fun _ w7 g6 N db c=>?_;clear db;obtain ⟨ba,r,d0,dr,dw⟩:=N.al;have bi:=h.lo d0;replace h:=h.trans r (by simp);clear N r;refine R.on 14 ?_;refine OS.storeR c rfl Aa Zw rfl rfl rfl ba rfl rfl (fun _ hk=>h.nn hk bi) fun _ w8 c d8 bx=>?_;have dx:=bx.size;replace h:=h.nn bx bi;replace ba:=d8;clear bx;refine R.dn k3 ?_;refine wp_seq_k fun _ k3=>?_;obtain ⟨d9,rfl⟩ : ∃ g,g = g6:=⟨_,rfl⟩;have a5 : Blk w8 d9 58 (mcell ⟨⟨m.tp,m.pay,min m.qos q,false⟩,Am,cm⟩).toArray:=ba;clear ba;have a9:=dk w8 1;refine R.begin (S:=fun _=>True) (by kernel_rfl) trivial ?_;obtain ⟨w9,bo⟩ : ∃ W,W = w8.drewN 1:=⟨_,rfl⟩;rw [← bo] at a9 ⊢;clear bo;have dy:=a9.size;replace h:=h.trans a9 (by simp);replace a5:=a5.z a9;clear a9;refine rq [0,1,2,3] c fun _ c=>?_;refine R.p 4 c rfl trivial (E.fa 0 c Tryz.underlying118 rfl Z2) fun _ c=>?_;refine rq [8,9] c fun _ c=>?_;have c:=c.as (i:=117) (v':=.bool true) rfl (by rfl);refine rq [10] c fun _ c=>?_;refine R.two 5 7 (by kernel_rfl) ?_ ?_
  ·skip;refine O.val c rfl rfl (by decide) Aa (by exact E.load c U9 rfl rfl ((Nv h FO bd 0 rfl))) trivial fun _ d=>?_;refine R.two 6 7 (by kernel_rfl) ?_ ?_
   ·skip;refine O.call d rfl rfl (by decide) Aa (Bm d Tryz.call25) (Gy b lp sp SA sc at_ cn s B _ (a4.k0 h)) ?_;rintro e d3 ⟨rfl,rfl⟩;refine ⟨_,rfl,trivial,fun _ n=>?_⟩;refine R.on 7 ?_;refine O.val n rfl rfl (by decide) Aa (by exact E.loadB n U58 rfl Zw rfl (a5) rfl) trivial fun _ n=>?_;refine R.on 11 ?_;refine O.call n rfl rfl (by decide) Aa (B5 Tryz.call38 (Q6 n rfl rfl rfl rfl)) (Mt B sp s ⟨m.tp,m.pay,min m.qos q,false⟩ Am cm true now _ (a4.k0 h).se (bs.k0 h) (Nat.le_trans hB (Nat.le_trans ah.size h.size)) bv) ?_;rintro e aa ⟨⟨s9,A7,c7,az,rfl,ao,u,a0,r,PK,cu⟩,cv⟩;have K4 : Bk B aa b lp sp SA sc at_ cn s9:=(a4.k0 h).next r (by decide) ao a0.cl
    have HM : Mod [111,185,143,160,58] [s.im,s.gm] B w aa:=Mod.trans (.o0 (ah.z h)) r;have av : Rs.Lk s s9:=⟨a0.im,a0.gm,a0.ls⟩;obtain ⟨a7,y⟩:=Prod.mk.inj u;clear u;have u:=a7;clear h a5;refine ⟨_,rfl,trivial,fun _ n=>?_⟩;have b3:=r.size;clear r;refine rq [12] n fun _ n=>?_;refine R.dn k3 ?_;refine C.sk fun _ k4=>?_;(iterate 2 refine L.s n fun _ n=>?_);have n:=n.as (i:=121) (v':=.bool true) rfl (by rfl);refine wn k4 ?_;refine C.cT n rfl ?_;refine C.region ?_;(iterate 3 refine L.s n fun _ n=>?_);refine L.cl n (Bm n Tryz.call29) (Gi B az A7 c7 _ _ (Nat.le_trans hB HM.size) PK (by rw [y]; exact bw) (by omega)) ?_;rintro e b6 ⟨AV,cV,o,rfl,r,EN,OV⟩;replace OV:=OV.lw HM.size;rw [y] at EN;have ho : o.length ≤ 10:=by have h1:=congrArg List.length EN.enc; have h2:=congrArg List.length y; simp at h1 h2; omega
    refine ⟨_,rfl,fun _ n=>?_⟩;have b4:=r.size;replace HM:=HM.trans (.o0 r);replace K4:=K4.k0 r;replace PK:=PK.k0 r;clear r;refine L.append n Aa (by decide) U44 Ul rfl rfl rfl rfl (Own.nil _ _ _) (OV.fr.sl) (Dr _) (by unfold maxLen; omega) (by omega) fun _ ab A8 c8 a1 n=>?_;have j : Kept [] b6 ab:=by simpa [Value.ownBlock] using a1.kept
    have OW : OutsAt B w ab A8 c8 o:=OV.put a1 HM.size;simp only [Nat.zero_add] at n;have b5:=j.size;replace HM:=HM.trans (.o0 j);replace K4:=K4.k0 j;clear j;refine pe n k2 fun _ n=>?_;refine C.region ?_;(iterate 3 refine L.s n fun _ n=>?_);refine wpList_nil (ac _ _ (au - 1) ?_ ?_)
    ·omega
    exact ⟨1,A8,c8,o.length,by omega,.inr ⟨rfl,⟨s9,o,rfl,K4,av,HM,u,EN,OW,ho⟩⟩,n.sub (sx (sx (sx (sx (sx (sx sn))))))⟩
   skip;refine O.val d rfl rfl (by decide) Aa (by exact E.loadB d U58 rfl Zw rfl (a5) rfl) trivial fun _ d=>?_;refine R.on 6 ?_;refine O.call d rfl rfl (by decide) Aa (Bm d Tryz.call25) (Gy b lp sp SA sc at_ cn s B _ (a4.k0 h)) ?_;rintro e d3 ⟨rfl,rfl⟩;refine ⟨_,rfl,trivial,fun _ d=>?_⟩;refine R.on 11 ?_;refine O.call d rfl rfl (by decide) Aa (B5 Tryz.call38 (Q6 d rfl rfl rfl rfl)) (Mt B sp s ⟨m.tp,m.pay,min m.qos q,false⟩ Am cm true now _ (a4.k0 h).se (bs.k0 h) (Nat.le_trans hB (Nat.le_trans ah.size h.size)) bv) ?_;rintro e aa ⟨⟨s9,A7,c7,az,rfl,ao,u,a0,r,PK,cu⟩,cv⟩;have K4 : Bk B aa b lp sp SA sc at_ cn s9:=(a4.k0 h).next r (by decide) ao a0.cl
   have HM : Mod [111,185,143,160,58] [s.im,s.gm] B w aa:=Mod.trans (.o0 (ah.z h)) r;have av : Rs.Lk s s9:=⟨a0.im,a0.gm,a0.ls⟩;obtain ⟨a7,y⟩:=Prod.mk.inj u;clear u;have u:=a7;clear h a5;refine ⟨_,rfl,trivial,fun _ d=>?_⟩;have b3:=r.size;clear r;refine rq [12] d fun _ d=>?_;refine R.dn k3 ?_;refine C.sk fun _ k4=>?_;(iterate 2 refine L.s d fun _ d=>?_);have d:=d.as (i:=121) (v':=.bool true) rfl (by rfl);refine wn k4 ?_;refine C.cT d rfl ?_;refine C.region ?_;(iterate 3 refine L.s d fun _ d=>?_);refine L.cl d (Bm d Tryz.call29) (Gi B az A7 c7 _ _ (Nat.le_trans hB HM.size) PK (by rw [y]; exact bw) (by omega)) ?_;rintro e b6 ⟨AV,cV,o,rfl,r,EN,OV⟩;replace OV:=OV.lw HM.size;rw [y] at EN;have ho : o.length ≤ 10:=by have h1:=congrArg List.length EN.enc; have h2:=congrArg List.length y; simp at h1 h2; omega
   refine ⟨_,rfl,fun _ d=>?_⟩;have b4:=r.size;replace HM:=HM.trans (.o0 r);replace K4:=K4.k0 r;replace PK:=PK.k0 r;clear r;refine L.append d Aa (by decide) U44 Ul rfl rfl rfl rfl (Own.nil _ _ _) (OV.fr.sl) (Dr _) (by unfold maxLen; omega) (by omega) fun _ ab A8 c8 a1 d=>?_;have j : Kept [] b6 ab:=by simpa [Value.ownBlock] using a1.kept
   have OW : OutsAt B w ab A8 c8 o:=OV.put a1 HM.size;simp only [Nat.zero_add] at d;have b5:=j.size;replace HM:=HM.trans (.o0 j);replace K4:=K4.k0 j;clear j;refine pe d k2 fun _ d=>?_;refine C.region ?_;(iterate 3 refine L.s d fun _ d=>?_);refine wpList_nil (ac _ _ (au - 1) ?_ ?_)
   ·omega
   exact ⟨1,A8,c8,o.length,by omega,.inr ⟨rfl,⟨s9,o,rfl,K4,av,HM,u,EN,OW,ho⟩⟩,d.sub (sx (sx (sx (sx (sx (sx sn))))))⟩
  skip;refine O.val c rfl rfl (by decide) Aa (by exact E.loadB c U58 rfl Zw rfl (a5) rfl) trivial fun _ c=>?_;refine R.on 5 ?_;refine O.val c rfl rfl (by decide) Aa (by exact E.load c U9 rfl rfl ((Nv h FO bd 0 rfl))) trivial fun _ c=>?_;refine R.on 6 ?_;refine O.call c rfl rfl (by decide) Aa (Bm c Tryz.call25) (Gy b lp sp SA sc at_ cn s B _ (a4.k0 h)) ?_;rintro e d3 ⟨rfl,rfl⟩;refine ⟨_,rfl,trivial,fun _ c=>?_⟩;refine R.on 11 ?_;refine O.call c rfl rfl (by decide) Aa (B5 Tryz.call38 (Q6 c rfl rfl rfl rfl)) (Mt B sp s ⟨m.tp,m.pay,min m.qos q,false⟩ Am cm true now _ (a4.k0 h).se (bs.k0 h) (Nat.le_trans hB (Nat.le_trans ah.size h.size)) bv) ?_;rintro e aa ⟨⟨s9,A7,c7,az,rfl,ao,u,a0,r,PK,cu⟩,cv⟩;have K4 : Bk B aa b lp sp SA sc at_ cn s9:=(a4.k0 h).next r (by decide) ao a0.cl
  have HM : Mod [111,185,143,160,58] [s.im,s.gm] B w aa:=Mod.trans (.o0 (ah.z h)) r;have av : Rs.Lk s s9:=⟨a0.im,a0.gm,a0.ls⟩;obtain ⟨a7,y⟩:=Prod.mk.inj u;clear u;have u:=a7;clear h a5;refine ⟨_,rfl,trivial,fun _ c=>?_⟩;have b3:=r.size;clear r;refine rq [12] c fun _ c=>?_;refine R.dn k3 ?_;refine C.sk fun _ k3=>?_;(iterate 2 refine L.s c fun _ c=>?_);have c:=c.as (i:=121) (v':=.bool true) rfl (by rfl);refine wn k3 ?_;refine C.cT c rfl ?_;refine C.region ?_;(iterate 3 refine L.s c fun _ c=>?_);refine L.cl c (Bm c Tryz.call29) (Gi B az A7 c7 _ _ (Nat.le_trans hB HM.size) PK (by rw [y]; exact bw) (by omega)) ?_;rintro e b6 ⟨AV,cV,o,rfl,r,EN,OV⟩;replace OV:=OV.lw HM.size;rw [y] at EN;have ho : o.length ≤ 10:=by have h1:=congrArg List.length EN.enc; have h2:=congrArg List.length y; simp at h1 h2; omega
  refine ⟨_,rfl,fun _ c=>?_⟩;have b4:=r.size;replace HM:=HM.trans (.o0 r);replace K4:=K4.k0 r;replace PK:=PK.k0 r;clear r;refine L.append c Aa (by decide) U44 Ul rfl rfl rfl rfl (Own.nil _ _ _) (OV.fr.sl) (Dr _) (by unfold maxLen; omega) (by omega) fun _ ab A8 c8 a1 c=>?_;have j : Kept [] b6 ab:=by simpa [Value.ownBlock] using a1.kept
  have OW : OutsAt B w ab A8 c8 o:=OV.put a1 HM.size;simp only [Nat.zero_add] at c;have b5:=j.size;replace HM:=HM.trans (.o0 j);replace K4:=K4.k0 j;clear j;refine pe c k2 fun _ c=>?_;refine C.region ?_;(iterate 3 refine L.s c fun _ c=>?_);refine wpList_nil (ac _ _ (au - 1) ?_ ?_)
  ·omega
  exact ⟨1,A8,c8,o.length,by omega,.inr ⟨rfl,⟨s9,o,rfl,K4,av,HM,u,EN,OW,ho⟩⟩,c.sub (sx (sx (sx (sx (sx (sx sn))))))⟩
 obtain ⟨h1,hD⟩ : i = 1 ∧ GiveD B b lp sp SA sc at_ cn s (sendS s.abs ⟨m.tp,m.pay,min m.qos q,false⟩ true now) w n5 A5 c5 w5:=hI.resolve_left (by rintro ⟨h9,_⟩; omega)
 refine C.cF f rfl ?_;refine wp_exit (k1 _ _ ?_);refine rt f ?_;exact ⟨A5,n5,c5,rfl,hD⟩
end Go.Proofs.YtkdeedhjkjffpaaGreat
namespace Go.Proofs.YtkdeedhjkjffpaaGreat
open Go.RowKit Go.Hub Go.Lib
theorem S8 {a b c : ByteArray} (h : I4 a b) (k : I4 b c) : I4 a c:=by rw [Tw] at *; exact List.lt_trans h k
theorem x2z {a b : ByteArray} (h : ¬ I4 a b) (k : ¬ I4 b a) : a = b:=by
  rw [Tw] at *;have e:=List.le_antisymm (show a.toList ≤ b.toList from k) (show b.toList ≤ a.toList from h);rw [ByteArray.toList_eq,ByteArray.toList_eq] at e;exact ByteArray.ext (Array.ext' e)
theorem x0i (a b : ByteArray) : I4 a b ∨ a = b ∨ I4 b a:=by
  by_cases h : I4 a b
  · exact .inl h
  by_cases k : I4 b a
  · exact .inr (.inr k)
  exact .inr (.inl (x2z h k))
section
variable {l : FE} {f : ByteArray} {q : Int} {k : Nat} {x : ByteArray × Int}
theorem insF_perm : ∀ {l : FE}, Jf l → (Gv l f q).Perm ((f, q) :: Sx l f)
  | [],_=>List.Perm.refl _
  | p :: r,hA=>by
    have hr:=(List.pairwise_cons.1 hA).2
    rw [Gv]
    split
    · next h=>
      have b : p.1 ≠ f:=fun e=>by rw [e] at h; exact D3 _ h
      rw [Sx,List.filter_cons,if_pos (by simpa using b)]
      exact ((insF_perm hr).cons p).trans (List.Perm.swap _ _ _)
    split
    · next h=>
      rw [Sx,List.filter_cons,if_neg (by simpa using h)]
      have : Sx r f = r:=Ty (h ▸ Xi hA)
      rw [Sx] at this
      rw [this]
    next h1 h2=>
    have a : I4 f p.1:=(x0i p.1 f).elim (fun h=>absurd h h1) (fun h=>h.elim (fun h=>absurd h h2) id)
    have : Sx (p :: r) f = p :: r:=Ty fun y c e=>by
      rcases List.mem_cons.1 c with rfl | c
      · exact h2 e
      have:=S8 a ((List.pairwise_cons.1 hA).1 y c)
      rw [e] at this
      exact D3 _ this
    rw [this]
theorem Wa : ∀ {l : FE}, Jf l → Jf (Gv l f q)
  | [],_=>by simp [Gv,Jf]
  | p :: r,hA=>by
    obtain ⟨h0,hr⟩:=List.pairwise_cons.1 hA
    rw [Gv]
    split
    · next h=>
      refine List.pairwise_cons.2 ⟨fun y a=>?_,Wa hr⟩
      rcases List.mem_cons.1 ((insF_perm hr).mem_iff.1 a) with rfl | a
      · exact h
      exact h0 y (List.mem_filter.1 a).1
    split
    · next h=>
      subst h
      exact List.pairwise_cons.2 ⟨h0,hr⟩
    next h1 h2=>
    have b : I4 f p.1:=(x0i p.1 f).elim (fun h=>absurd h h1) (fun h=>h.elim (fun h=>absurd h h2) id)
    refine List.pairwise_cons.2 ⟨fun y a=>?_,hA⟩
    rcases List.mem_cons.1 a with rfl | a
    · exact b
    exact S8 b (h0 y a)
theorem y1j (a : Jf l) : Jf (Sx l f):=a.sublist List.filter_sublist
theorem Qh (a : Jf l) : (Gv l f q).length ≤ l.length + 1:=by
  rw [(insF_perm a).length_eq,List.length_cons];exact Nat.succ_le_succ (List.length_filter_le _ _)
theorem LsOk.put (h : LsOk l) (a : okF f q) (c : f.size ≤ 100000) (d : l.length < 1000000) : LsOk (Gv l f q):=by
  refine ⟨Wa h.asc,fun p b=>?_,by have:=Qh (f:=f) (q:=q) h.asc; omega⟩
  rcases List.mem_cons.1 ((insF_perm h.asc).mem_iff.1 b) with rfl | b
  · exact ⟨a.1,a.2.1,a.2.2,c⟩
  exact h.ok p (List.mem_filter.1 b).1
theorem LsOk.drop (h : LsOk l) : LsOk (Sx l f):=⟨y1j h.asc,fun p a=>h.ok p (List.mem_filter.1 a).1,Nat.le_trans (List.length_filter_le _ _) h.len⟩
end
def Q2 (l : FE) (x : ByteArray × Int) : FE:=if Bp x.1 = true then Gv l x.1 x.2 else l
def G7 (x : ByteArray × Int) : Int:=if Bp x.1 = true then x.2 else 128
theorem Qi {l r : FE} {k : Nat} {x : ByteArray × Int} (a : r[k]? = some x) : (r.take (k + 1)).foldl Q2 l = Q2 ((r.take k).foldl Q2 l) x:=by
  rw [List.take_add_one,a,List.foldl_append]; rfl
theorem M1 {r : FE} {k : Nat} {x : ByteArray × Int} (a : r[k]? = some x) : (r.take (k + 1)).map G7 = (r.take k).map G7 ++ [G7 x]:=by
  rw [List.take_add_one,a,List.map_append]; rfl
theorem x0j {r : FE} (h : ∀ x ∈ r,0 ≤ x.2 ∧ x.2 ≤ 2) : Qv (r.map G7) = true:=by
  unfold Qv;rw [List.all_eq_true];intro c a;obtain ⟨x,b,rfl⟩:=List.mem_map.1 a;have:=h x b;unfold G7 Da
  split
  · simp; omega
  simp
theorem Wb : ∀ r : FE, Gx r (r.map G7) = true
  | []=>rfl
  | x :: r=>by
    rw [List.map_cons,Gx,Wb r]
    unfold G7
    split <;> simp
end Go.Proofs.YtkdeedhjkjffpaaGreat
namespace Go.Proofs.YtkdeedhjkjffpaaGreat
open Go.RowKit Go.Hub Go.Lib
theorem Zo2 : (Tryz.prog.info? 56).map (·.size) = some 4:=by kernel_rfl
theorem Zp2 (a : Int) (b : Int) (c : Option Addr) (d f : Nat) : Tryz.prog.built 39 [(0,.int .i64 a),(4,.int .i64 b),(20,.slice c d f)] = some #[.int .i64 a,(.bool false),(.bool false),(.int .i64 0),.int .i64 b,(.string ⟨#[]⟩),(.slice none 0 0),(.int .i64 0),(.string ⟨#[]⟩),(.bool false),(.int .i64 0),(.bool false),(.string ⟨#[]⟩),(.slice none 0 0),(.int .i64 0),(.bool false),(.bool false),(.bool false),(.string ⟨#[]⟩),(.slice none 0 0),(.bool false),(.int .i64 0),(.slice none 0 0),.slice c d f]:=by kernel_rfl
theorem LFar.step {w w1 l : World} {A c : Option Addr} (h : LFar w w1 A) (n : Jw w A c) (k : LFar w1 l c) (o : w.heap.size ≤ w1.heap.size) : LFar w l A:=fun i g j a=>by
  have d:=h i g j a
  refine (k i (Nat.lt_of_lt_of_le g o) (j.of_eq d) fun b m e=>?_).trans d
  subst e
  rcases n b m with f | f
  · exact a b f rfl
  omega
theorem LFar.blk {w w1 : World} {A : Option Addr} {g : Nat} {cs : Array Value} (h : LFar w w1 A) (b : Blk w g 79 cs) (a : ∀ x,A.map (·.block) = some x → x ≠ g) : Blk w1 g 79 cs:=(h g b.lt (b.typ (by simp)) a).trans b
structure Sq (w : World) (s s' : Rs) : Prop where
  abs : s'.abs = s.abs
  im : s'.im = s.im
  gm : s'.gm = s.gm
  row : Jw w s.LA s'.LA
theorem Sq.trans {w w1 : World} {s a c : Rs} (h : Sq w s a) (f : c.abs = a.abs) (hi : c.im = a.im) (i : c.gm = a.gm) (j : Jw w1 a.LA c.LA) (k : w.heap.size ≤ w1.heap.size) : Sq w s c:=⟨f.trans h.abs,hi.trans h.im,i.trans h.gm,fun b g=>(j b g).elim (h.row b) fun d=>.inr (Nat.le_trans k d)⟩
theorem x7r {w W : World} {T : List TypeId} {M : List Nat} {B : Nat} {A k : Option Addr} (z : ∀ b,A.map (·.block) = some b → Typ w b [5,79,3]) (y : ∀ b,A.map (·.block) = some b → k.map (·.block) ≠ some b) (o : Mod T M B w W) (j : LFar w W k) (f : (5 : TypeId) ∉ T ∧ (3 : TypeId) ∉ T) : ∀ b,A.map (·.block) = some b → W.heap[b]? = w.heap[b]?:=fun b m=>by
  obtain ⟨p,t,s,g,v⟩:=z b m
  have l : b < w.heap.size:=(Array.getElem?_eq_some_iff.1 g).1
  by_cases n : t = 79
  · subst n
    exact j b l ⟨p,_,s,g,by simp⟩ fun x hx r=>y b m (r ▸ hx)
  refine o.block b l (.inr ⟨fun h=>?_,fun h=>?_⟩)
  · obtain ⟨q, t', u, a, i⟩ := h
    rw [g] at a
    injection a with a
    injection a with _ a _
    subst a
    rcases (by simpa using v : t = 5 ∨ t = 79 ∨ t = 3) with d | d | d
    · rw [d] at i; exact f.1 i
    · exact n d
    rw [d] at i; exact f.2 i
  obtain ⟨⟨es,c,a⟩,_⟩:=h
  rw [g] at a
  cases a
theorem y5f {w W : World} {T : List TypeId} {M : List Nat} {B : Nat} {A d : Option Addr} (f : ∀ b,A.map (·.block) = some b → Typ w b [5,79,3]) (i : ∀ b,A.map (·.block) = some b → d.map (·.block) ≠ some b) (h : Mod T M B w W) (a : LFar w W d) (c : (5 : TypeId) ∉ T ∧ (3 : TypeId) ∉ T:=by decide) : ∀ b,A.map (·.block) = some b → Typ W b [5,79,3]:=fun b g=>(f b g).of_eq (x7r f i h a c b g)
theorem x0k {w W : World} {T : List TypeId} {M : List Nat} {B n size : Nat} {A h : Option Addr} {xs : List Value} (S : Sl w A n size xs) (k : ∀ b,A.map (·.block) = some b → Typ w b [5,79,3]) (i : ∀ b,A.map (·.block) = some b → h.map (·.block) ≠ some b) (g : Mod T M B w W) (d : LFar w W h) (f : (5 : TypeId) ∉ T ∧ (3 : TypeId) ∉ T:=by decide) : Sl W A n size xs:=
  ⟨S.1,fun o=>by
    obtain ⟨b,c,e,l,m⟩:=S.2 o
    refine ⟨b,c,e,Nat.lt_of_lt_of_le l g.size,fun j u p=>?_⟩
    rw [World.cell?_of_block (w:=w) (a:=⟨b,c + j,none⟩) (x7r k i g d f b (by rw [e]; rfl))]
    exact m j u p⟩
theorem Ue {w : World} {g t : Nat} {c : Int} (b : Blk w g t #[.int .i64 c]) : Sl w (some ⟨g,0,none⟩) 1 1 [.int .i64 c]:=⟨rfl,fun _=>⟨g,0,rfl,b.lt,fun j u a=>by rw [Nat.zero_add]; exact b.cl a⟩⟩
theorem Qj {c : Int} {v : Value} (h : v ∈ [Value.int .i64 c]) : v.oneCell' = true:=by
  obtain rfl:=List.mem_singleton.1 h
  rfl
theorem Qk {a w W : World} {A b : Option Addr} {cl : List Int} {f d : Nat} {c : Int} (F : Fresh a w 3 1 A cl.length f (codeCells cl)) (g : App w W 3 1 A cl.length f (codeCells cl) [.int .i64 c] 1 b d) (h : a.heap.size ≤ w.heap.size) : Fresh a W 3 1 b (cl ++ [c]).length d (codeCells (cl ++ [c])):=by
  have:=g.next F h
  unfold codeCells at this ⊢;rw [List.map_append,List.length_append];exact this
theorem x0l {a w W : World} {A b : Option Addr} {cl : List ByteArray} {f d : Nat} {c : ByteArray} (F : Fresh a w 9 1 A cl.length f (cl.map .string)) (g : App w W 9 1 A cl.length f (cl.map .string) ([c].map .string) 1 b d) (h : a.heap.size ≤ w.heap.size) : Fresh a W 9 1 b (cl ++ [c]).length d ((cl ++ [c]).map .string):=by
  have:=g.next F h
  rw [List.map_append,List.length_append];exact this
theorem y5g {w : World} {A : Option Addr} {cl : List Int} {b a k : Nat} {c : Int} (S : Sl w A cl.length 1 (codeCells cl)) (f : A = some ⟨b,a,none⟩) (d : cl[k]? = some c) : w.cell? ⟨b,a + (k : Int).toNat * 1,none⟩ = some (.int .i64 c):=by
  rw [Int.toNat_natCast,Nat.mul_one];have g:=(List.getElem?_eq_some_iff.1 d).1;exact S.cell (by omega) f (by unfold codeCells; rw [List.getElem?_map,d]; rfl)
def x7s (B b lp sp : Nat) (SA : Option Addr) (sc : Nat) (at_ : Int) (cn : Bool) (s : Rs) (p : Pk) (w : World) (e : Ending) (w' : World) : Prop:=∃ A n c D nd dc s' o,e = .returned (.agg #[.slice A n c,.slice none 0 0,.slice D nd dc,.slice none 0 0]) ∧ n = (o : List Oc).length ∧ Bk B w' b lp sp SA sc at_ cn s' ∧ s'.abs = s.abs ∧ s'.im = s.im ∧ s'.gm = s.gm ∧ s'.ls = p.subs.foldl Q2 s.ls ∧ LsOk s'.ls ∧ s'.ls.length ≤ s.ls.length + p.subs.length ∧ Mod [111,79] [] B w w' ∧ LFar w w' s.LA ∧ EncL o [{ kind:=9,id:=p.id,codes:=p.subs.map G7 }] ∧ OutsAt B w w' A c o
theorem x7t (b lp sp : Nat) (SA : Option Addr) (sc : Nat) (at_ : Int) (cn : Bool) (s : Rs) (B : Nat) (p : Pk) (ad : Ad) (now : Int) (w : World) (K : Bk B w b lp sp SA sc at_ cn s) (SU : Sl w ad.ua p.subs.length 2 (p.subs.flatMap scp)) (de : ∀ b,ad.ua.map (·.block) = some b → Typ w b [5,79,3]) (dd : ∀ b,ad.ua.map (·.block) = some b → s.LA.map (·.block) ≠ some b) (hP : ∀ x ∈ p.subs,0 ≤ x.2 ∧ x.2 ≤ 2 ∧ x.1.size ≤ 100000) (gd : 0 < p.subs.length ∧ p.subs.length ≤ 100) (ep : 1 ≤ p.id ∧ p.id ≤ 65535) (d4 : LsOk s.ls) (gc : s.ls.length ≤ 900000) (hB : B ≤ w.heap.size) : Calls Tryz.prog 31 #[.pointer (some ⟨b,0,none⟩),.int .i64 0,.pointer (some ⟨sp,0,none⟩),.agg (p.cells ad),.int .i64 now,.agg #[.slice none 0 0,.slice none 0 0,.slice none 0 0,.slice none 0 0]] w (x7s B b lp sp SA sc at_ cn s p w):=by
 have HK : Kept [] w w:=Kept.refl [] w;refine Bw Tryz.func31 Tryz.ntmps31 fun _ j=>?_;refine C.sk fun _ k1=>?_;refine L.box j Aa (by decide) rfl rfl fun _ w1 g0 N j=>?_;obtain ⟨ai,d,di,fd,fk⟩:=N.al;have d6:=HK.lo di;replace HK:=HK.z d;clear N d;refine L.box j Aa (by decide) rfl rfl fun _ w2 g1 N j=>?_;obtain ⟨av,d,dj,fe,fl⟩:=N.al;have d7:=HK.lo dj;have dt : g0 ≠ g1:=by have:=ai.lt; omega
 replace HK:=HK.z d;replace ai:=ai.z d;clear N d;refine L.alloc j Aa (by decide) (z:=Q9) (fun _=>by kernel_rfl) rfl fun _ w3 g2 N j=>?_;obtain ⟨bw,d,dl,ff,fm⟩:=N.al;have d8:=HK.lo dl;have du : g0 ≠ g2:=by have:=ai.lt; omega
 have dw : g1 ≠ g2:=by have:=av.lt; omega
 replace HK:=HK.z d;replace ai:=ai.z d;replace av:=av.z d;clear N d;refine wn k1 (C.sk fun _ k1=>?_);refine L.alloc j Aa (by decide) (z:=Q9) (fun _=>by kernel_rfl) rfl fun _ w4 g3 N j=>?_;obtain ⟨eg,d,dm,fg,fn⟩:=N.al;have d9:=HK.lo dm;have dv : g0 ≠ g3:=by have:=ai.lt; omega
 have dx : g1 ≠ g3:=by have:=av.lt; omega
 have dy : g2 ≠ g3:=by have:=bw.lt; omega
 replace HK:=HK.z d;replace ai:=ai.z d;replace av:=av.z d;replace bw:=bw.z d;clear N d;refine wn k1 ?_;refine wp_seq_k fun _ k1=>?_;obtain ⟨gp,rfl⟩ : ∃ g,g = g0:=⟨_,rfl⟩;have BP : Blk w4 gp 39 (p.cells ad):=ai;have fa : w.heap.size ≤ gp:=d6;obtain ⟨gx,rfl⟩ : ∃ g,g = g1:=⟨_,rfl⟩;have BX : Blk w4 gx 56 #[.slice none 0 0,.slice none 0 0,.slice none 0 0,.slice none 0 0]:=av;have fb : w.heap.size ≤ gx:=d7;obtain ⟨gR,rfl⟩ : ∃ g,g = g2:=⟨_,rfl⟩;have l : Blk w4 gR 48 #[.slice none 0 0,.slice none 0 0,.slice none 0 0,.slice none 0 0]:=bw;have et : w.heap.size ≤ gR:=d8;obtain ⟨gE,rfl⟩ : ∃ g,g = g3:=⟨_,rfl⟩;have BE : Blk w4 gE 48 #[.slice none 0 0,.slice none 0 0,.slice none ([] : List ByteArray).length 0,.slice none 0 0]:=eg;have f9 : w.heap.size ≤ gE:=d9;have r : Mod [111,79] [] B w w4:=.o0 HK;have o : LFar w w4 s.LA:=LFar.mod (fun _ _ _ _=>rfl) (Mod.o0 (T:=[]) (M:=[]) (B:=B) HK) (by simp) (Nat.le_refl _);replace K:=K.k0 HK;have es : gR ≠ gE:=by omega
 clear HK;have CF : Fresh w w4 3 1 none ([] : List Int).length 0 (codeCells []):=Fresh.nil _ _ _ _;have DF : Fresh w w4 9 1 none ([] : List ByteArray).length 0 (([] : List ByteArray).map .string):=Fresh.nil _ _ _ _;refine Ib j k1 fun _ j=>?_;refine wp_seq_k fun _ k1=>?_;refine pr j fun _ j=>?_;refine wp_block ?_;refine C.loop (fun gk a W=>∃ (k : Nat) (cl : List Int) (Cq : Option Addr) (cc : Nat) (ds : List ByteArray) (D : Option Addr) (dc : Nat) (s' : Rs),k + gk = p.subs.length ∧ cl = (p.subs.take k).map G7 ∧ cl.length = k ∧ ds.length ≤ k ∧ s'.ls = (p.subs.take k).foldl Q2 s.ls ∧ LsOk s'.ls ∧ s'.ls.length ≤ s.ls.length + k ∧ Sq w s s' ∧ LFar w W s.LA ∧ Mod [111,79] [] B w W ∧ Bk B W b lp sp SA sc at_ cn s' ∧ Blk W gp 39 (p.cells ad) ∧ Blk W gx 56 #[.slice none 0 0,.slice none 0 0,.slice none 0 0,.slice none 0 0] ∧ Blk W gR 48 #[.slice none 0 0,.slice none 0 0,.slice none 0 0,.slice none 0 0] ∧ Blk W gE 48 #[.slice none 0 0,.slice none 0 0,.slice D ds.length dc,.slice none 0 0] ∧ Fresh w W 3 1 Cq cl.length cc (codeCells cl) ∧ Fresh w W 9 1 D ds.length dc (ds.map .string) ∧ Fr 130 a [(0,.pointer (some ⟨b,0,none⟩)),(1,.int .i64 0),(2,.pointer (some ⟨sp,0,none⟩)),(4,.int .i64 now),(9,.pointer (some ⟨gp,0,none⟩)),(11,.pointer (some ⟨gx,0,none⟩)),(12,.pointer (some ⟨gR,0,none⟩)),(13,.pointer (some ⟨gE,0,none⟩)),(14,.slice Cq cl.length cc),(15,.int .i64 k)]) (p.subs.length) ?_ ?_
 ·exact ⟨0,[],none,0,[],none,0,s,by omega,rfl,rfl,Nat.le_refl _,rfl,d4,by omega,⟨rfl,rfl,rfl,fun _ h=>.inl h⟩,o,r,K,BP,BX,l,BE,CF,DF,j.sub (sx (sx (sx (sx (sx (sx (sx (sx (sx (sx sn))))))))))⟩
 intro cf _ w5 hI fs bl;obtain ⟨k,cl,Cq,cc,ds,D,dc,s',hk,b2,f6,ga,bm,ac,dg,HQ,o,r,K,BP,BX,l,BE,CF,DF,c⟩:=hI
 try clear j
 have gf:=r.size;refine wp_seq_k fun _ k2=>?_;refine pr c fun _ j=>?_;refine j.sD 25 rfl (fun h0 j=>?_) (fun h0 j=>?_)
 ·obtain ⟨x,hx⟩:=Bn p.subs k (by omega);obtain ⟨bU,oU,ch⟩:=SU.addr (by omega);have a9:=List.mem_of_getElem? hx;refine C.cT j rfl ?_;refine wp_skip (k2 _ _ ?_);have c:=j.pk [0,1,2,4,9,11,12,13,14,15,21,22,23,24,25];refine wp_seq_k fun _ k2=>?_;refine wp_block ?_;refine wp_seq_k fun _ k3=>?_;have ek:=x0k SU de dd r o;have HX:=Kept.refl [] w5;refine C.region ?_;refine L.s c fun _ c=>?_;refine L.lo c ((BP.z HX).cl rfl) fun _ c=>?_;(iterate 2 refine L.s c fun _ c=>?_);refine L.va c (E.loadR c U79 rfl Z4 rfl ((Sl.row (i:=k) (cs:=scp x) (ek.kept HX) (by omega) ch (Fk scp 2 (fun _=>rfl) p.subs k x hx))) rfl) fun _ c=>?_;refine L.alloc c Aa (by decide) (z:=z79) (fun _=>by kernel_rfl) rfl fun _ w6 g5 N c=>?_;obtain ⟨c8,d,dp,fh,e5⟩:=N.al;have c1:=HX.lo dp;replace HX:=HX.trans d (by simp);clear N d;refine L.storeR c Aa Z4 rfl rfl rfl c8 rfl rfl fun _ w7 c cd a7=>?_;have e6:=a7.size;replace HX:=HX.nn a7 c1;replace c8:=cd;clear a7;refine wn k3 ?_;refine wp_seq_k fun _ k3=>?_;refine wp_seq_k fun _ k4=>?_;obtain ⟨gF,rfl⟩ : ∃ g,g = g5:=⟨_,rfl⟩;have u : Blk w7 gF 79 (scp x).toArray:=c8;have f8 : w5.heap.size ≤ gF:=c1;have fj : gF ≠ gE ∧ gF ≠ gR ∧ gF ≠ gp ∧ gF ≠ gx:=by have:=BE.lt; have:=l.lt; have:=BP.lt; have:=BX.lt; omega
  have c4 : ∀ b,s'.LA.map (·.block) = some b → b ≠ gF:=fun b hb=>by have:=K.se.ls.own.blk b ((Ag _ _ _ _).2 hb); omega
  replace o:=o.mod (Mod.o0 (T:=[]) (M:=[]) (B:=B) HX) (by simp) r.size;replace r:=r.trans (.o0 HX);replace K:=K.k0 HX;replace BP:=BP.z HX;replace BX:=BX.z HX;replace l:=l.z HX;replace BE:=BE.z HX;replace CF:=CF.k0 HX;replace DF:=DF.k0 HX;clear HX;refine C.region ?_;(iterate 2 refine L.s c fun _ c=>?_);refine L.cl c (Dt c Tryz.call64) (G6 x.1 _ (x1t _) (by have:=(hP x a9).2.2; omega)) ?_;rintro e w8 ⟨d,rfl⟩;refine ⟨_,rfl,fun _ c=>?_⟩;have fo:=d.size;replace o:=o.mod (Mod.o0 (T:=[]) (M:=[]) (B:=B) d) (by simp) r.size;replace r:=r.trans (.o0 d);replace K:=K.k0 d;replace BP:=BP.z d;replace BX:=BX.z d;replace l:=l.z d;replace BE:=BE.z d;replace CF:=CF.k0 d;replace DF:=DF.k0 d;replace u:=u.z d;clear d;refine pe c k4 fun _ c=>?_;refine c.sB 36 rfl (fun h1 c=>?_) (fun h1 c=>?_)
  ·have af : Bp x.1 = false:=by simpa using h1
   refine C.cT c rfl ?_;refine C.sk fun _ k4=>?_;refine L.s c fun _ m=>?_;refine L.buildSlice m Aa (by decide) (pL m rfl) U37 Zh rfl rfl (Zi _) fun _ w9 g8 N m=>?_;obtain ⟨c9,d,dq,dr,b1⟩:=N.al;have bs : gp ≠ g8:=by have:=BP.lt; omega
   have bt : gx ≠ g8:=by have:=BX.lt; omega
   have br : gR ≠ g8:=by have:=l.lt; omega
   have bp : gE ≠ g8:=by have:=BE.lt; omega
   have bq : gF ≠ g8:=by have:=u.lt; omega
   replace o:=o.mod (Mod.o0 (T:=[]) (M:=[]) (B:=B) d) (by simp) r.size;replace r:=r.trans (.o0 d);replace K:=K.k0 d;replace BP:=BP.z d;replace BX:=BX.z d;replace l:=l.z d;replace BE:=BE.z d;replace CF:=CF.k0 d;replace DF:=DF.k0 d;replace u:=u.z d;clear N d;refine L.append m Aa (by decide) U37 Zc rfl rfl rfl rfl (CF.own) ((Ue c9)) (fun v hv=>Qj hv) (by unfold maxLen; omega) (by omega) fun _ b4 Cn cn ab m=>?_;have n : Mod [3] [] B w9 b4:=.of_app ab CF.own (fun a ha=>Nat.le_trans hB (CF.from a ha)) (by simp);have bb:=Qk CF ab r.size;replace o:=o.mod n (by decide) r.size;replace r:=r.app_new ab CF;have ag : cl.length + 1 = (cl ++ [128]).length:=by simp
   rw [ag] at m;clear ag;have ay:=n.size;replace K:=K.mod n (by decide);replace BP:=BP.mod n (by decide);replace BX:=BX.mod n (by decide);replace l:=l.mod n (by decide);replace BE:=BE.mod n (by decide);replace DF:=DF.mod n (by decide);replace u:=u.mod n (by decide);clear n;refine pe m k4 fun _ m=>?_;refine wp_exit (k2 _ _ ?_);refine C.region ?_;(iterate 3 refine L.s m fun _ m=>?_);refine wpList_nil (bl _ _ (cf - 1) ?_ ?_)
   ·omega
   exact ⟨k + 1,cl ++ [128],Cn,cn,ds,D,dc,s',by omega,by rw [M1 hx,← b2,G7,if_neg (by rw [af]; simp)],by simp; omega,by omega,by rw [Qi hx,← bm,Q2,if_neg (by rw [af]; simp)],ac,by omega,HQ,o,r,K,BP,BX,l,BE,bb,DF,m.sub (sx (sx (sx (sx (sx (sx (sx (sx (sx (sx sn))))))))))⟩
  have af : Bp x.1 = true:=by simpa using h1
  refine C.cF c rfl ?_;refine wp_skip (k3 _ _ ?_);refine wp_seq_k fun _ k3=>C.sk fun _ k4=>?_;(iterate 3 refine L.s c fun _ c=>?_);refine L.cl c (Bm c Tryz.call33) (M8 b lp sp SA sc at_ cn s' B _ K x.1 ac.len) ?_;rintro e gi ⟨rfl,rfl⟩;refine ⟨_,rfl,fun _ c=>?_⟩;refine pe c k4 fun _ c=>?_;refine c.sB 44 rfl (fun h2 c=>?_) (fun h2 c=>?_)
  ·refine C.cT c rfl ?_;refine C.region ?_;refine L.s c fun _ m=>?_;(iterate 3 refine L.s m fun _ m=>?_);refine L.buildSlice m Aa (by decide) (pL m rfl) U46 Zl rfl rfl (Zm _) fun _ w9 g8 N m=>?_;obtain ⟨c9,d,dq,dr,b1⟩:=N.al;have bs : gp ≠ g8:=by have:=BP.lt; omega
   have bt : gx ≠ g8:=by have:=BX.lt; omega
   have br : gR ≠ g8:=by have:=l.lt; omega
   have bp : gE ≠ g8:=by have:=BE.lt; omega
   have bq : gF ≠ g8:=by have:=u.lt; omega
   replace o:=o.mod (Mod.o0 (T:=[]) (M:=[]) (B:=B) d) (by simp) r.size;replace r:=r.trans (.o0 d);replace K:=K.k0 d;replace BP:=BP.z d;replace BX:=BX.z d;replace l:=l.z d;replace BE:=BE.z d;replace CF:=CF.k0 d;replace DF:=DF.k0 d;replace u:=u.z d;clear N d;refine L.append m Aa (by decide) U46 Zk rfl rfl rfl rfl (DF.own) ((Mv x.1 c9)) (fun v hv=>Dl [x.1] v hv) (by unfold maxLen; omega) (by omega) fun _ b4 Dn dn ab m=>?_;have n : Mod [9] [] B w9 b4:=.of_app ab DF.own (fun a ha=>Nat.le_trans hB (DF.from a ha)) (by simp);have ak:=x0l DF ab r.size;replace o:=o.mod n (by decide) r.size;replace r:=r.app_new ab DF;have ag : ds.length + 1 = (ds ++ [x.1]).length:=by simp
   rw [ag] at m;clear ag;have ay:=n.size;replace K:=K.mod n (by decide);replace BP:=BP.mod n (by decide);replace BX:=BX.mod n (by decide);replace l:=l.mod n (by decide);replace BE:=BE.mod n (by decide);replace CF:=CF.mod n (by decide);replace u:=u.mod n (by decide);clear n;refine L.s m fun _ m=>?_;refine L.store m Aa Z82 rfl rfl rfl BE (by (simp [Value.cells]; done)) fun _ cq m d5 a6=>?_;have cp:=a6.size;replace K:=K.mod (Mod.o1 (M:=[]) a6 BE (by omega)) (by decide);replace BP:=BP.kn a6;replace BX:=BX.kn a6;replace l:=l.kn a6;replace CF:=CF.mod (Mod.o1 (M:=[]) (B:=B) a6 BE (by omega)) (by decide);replace u:=u.kn a6;replace o:=o.mod (Mod.o1 (M:=[]) (B:=B) a6 BE (by omega)) (by decide) r.size;replace r:=r.kN a6 (by simp; omega);replace ak:=ak.mod (Mod.o1 (M:=[]) (B:=B) a6 BE (by omega)) (by decide);replace BE:=d5;simp only [Value.cells,List.setIfInBounds_toArray,List.set_cons_zero,List.set_cons_succ,Nat.reduceAdd,Nat.zero_add] at BE;clear a6;refine wn k3 (C.sk fun _ k4=>?_);(iterate 5 refine L.s m fun _ m=>?_);refine L.cl m (Ji m Tryz.call65) (Iq B sp s' x.1 x.2 _ K.se (Nat.le_trans hB r.size) (x1t _) (hP x a9).2.2 ac.len ac.asc) ?_;rintro e gg ⟨s9,b9,rfl,ce,ao,d,bn,aq,bo⟩
   have ah : s9.ls = Gv s'.ls x.1 x.2:=by rcases bn with h9 | h9; (exact h9.2.1); (exact absurd ⟨af,(hP x a9).1,(hP x a9).2.1⟩ h9.1)
   have K5:=K.next d (by decide) ce ao.cl
   have cb : Sq w s s9:=HQ.trans ao.abs ao.im ao.gm bo r.size;replace o:=o.step HQ.row aq r.size;replace u:=aq.blk u c4;replace r:=r.trans d;refine ⟨_,rfl,fun _ m=>?_⟩;have ew:=d.size;replace BP:=BP.mod d (by decide);replace BX:=BX.mod d (by decide);replace l:=l.mod d (by decide);replace CF:=CF.mod d (by decide);replace ak:=ak.mod d (by decide);replace BE:=BE.mod d (by decide);clear d;refine wn k4 ?_;refine C.region ?_;(iterate 3 refine L.s m fun _ m=>?_);refine L.buildSlice m Aa (by decide) (pL m rfl) U37 Zh rfl rfl (Zi _) fun _ ez bg N m=>?_;obtain ⟨d2,d,eu,ev,ex⟩:=N.al;have cy : gp ≠ bg:=by have:=BP.lt; omega
   have cz : gx ≠ bg:=by have:=BX.lt; omega
   have cx : gR ≠ bg:=by have:=l.lt; omega
   have cv : gE ≠ bg:=by have:=BE.lt; omega
   have cw : gF ≠ bg:=by have:=u.lt; omega
   replace BP:=BP.z d;replace BX:=BX.z d;replace l:=l.z d;replace CF:=CF.k0 d;replace ak:=ak.k0 d;replace BE:=BE.z d;replace o:=o.mod (Mod.o0 (T:=[]) (M:=[]) (B:=B) d) (by simp) r.size;replace r:=r.trans (.o0 d);replace K5:=K5.k0 d;replace u:=u.z d;clear N d;refine L.append m Aa (by decide) U37 Zc rfl rfl rfl rfl (CF.own) ((Ue d2)) (fun v hv=>Qj hv) (by unfold maxLen; omega) (by omega) fun _ f0 Cn cn ba m=>?_;have a5 : Mod [3] [] B ez f0:=.of_app ba CF.own (fun a ha=>Nat.le_trans hB (CF.from a ha)) (by simp);have bb:=Qk CF ba r.size;replace o:=o.mod a5 (by decide) r.size;replace r:=r.app_new ba CF;have ag : cl.length + 1 = (cl ++ [x.2]).length:=by simp
   rw [ag] at m;clear ag;have ey:=a5.size;replace BP:=BP.mod a5 (by decide);replace BX:=BX.mod a5 (by decide);replace l:=l.mod a5 (by decide);replace ak:=ak.mod a5 (by decide);replace BE:=BE.mod a5 (by decide);replace K5:=K5.mod a5 (by decide);replace u:=u.mod a5 (by decide);clear a5;refine pe m k2 fun _ m=>?_;refine C.region ?_;(iterate 3 refine L.s m fun _ m=>?_);refine wpList_nil (bl _ _ (cf - 1) ?_ ?_)
   ·omega
   exact ⟨k + 1,cl ++ [x.2],Cn,cn,ds ++ [x.1],Dn,dn,s9,by omega,by rw [M1 hx,← b2,G7,if_pos af],by simp; omega,by simp; omega,by rw [Qi hx,← bm,Q2,if_pos af]; exact ah,by rw [ah]; exact ac.put ⟨af,(hP x a9).1,(hP x a9).2.1⟩ (hP x a9).2.2 (by omega),by rw [ah]; have:=Qh (f:=x.1) (q:=x.2) ac.asc; omega,cb,o,r,K5,BP,BX,l,BE,bb,ak,m.sub (sx (sx (sx (sx (sx (sx (sx (sx (sx (sx sn))))))))))⟩
  refine C.cF c rfl ?_;refine wp_skip (k3 _ _ ?_);refine C.sk fun _ k3=>?_;(iterate 5 refine L.s c fun _ c=>?_);refine L.cl c (Ji c Tryz.call65) (Iq B sp s' x.1 x.2 _ K.se (Nat.le_trans hB r.size) (x1t _) (hP x a9).2.2 ac.len ac.asc) ?_;rintro e w9 ⟨s9,b9,rfl,ce,ao,d,bn,aq,bo⟩;have ah : s9.ls = Gv s'.ls x.1 x.2:=by rcases bn with h9 | h9; (exact h9.2.1); (exact absurd ⟨af,(hP x a9).1,(hP x a9).2.1⟩ h9.1)
  have K5:=K.next d (by decide) ce ao.cl
  have cb : Sq w s s9:=HQ.trans ao.abs ao.im ao.gm bo r.size;replace o:=o.step HQ.row aq r.size;replace u:=aq.blk u c4;replace r:=r.trans d;refine ⟨_,rfl,fun _ c=>?_⟩;have b1:=d.size;replace BP:=BP.mod d (by decide);replace BX:=BX.mod d (by decide);replace l:=l.mod d (by decide);replace BE:=BE.mod d (by decide);replace CF:=CF.mod d (by decide);replace DF:=DF.mod d (by decide);clear d;refine wn k3 ?_;refine C.region ?_;(iterate 3 refine L.s c fun _ c=>?_);refine L.buildSlice c Aa (by decide) (pL c rfl) U37 Zh rfl rfl (Zi _) fun _ b4 g9 N c=>?_;obtain ⟨eh,d,fc,fi,ay⟩:=N.al;have e2 : gp ≠ g9:=by have:=BP.lt; omega
  have e3 : gx ≠ g9:=by have:=BX.lt; omega
  have e1 : gR ≠ g9:=by have:=l.lt; omega
  have dz : gE ≠ g9:=by have:=BE.lt; omega
  have e0 : gF ≠ g9:=by have:=u.lt; omega
  replace BP:=BP.z d;replace BX:=BX.z d;replace l:=l.z d;replace BE:=BE.z d;replace CF:=CF.k0 d;replace DF:=DF.k0 d;replace o:=o.mod (Mod.o0 (T:=[]) (M:=[]) (B:=B) d) (by simp) r.size;replace r:=r.trans (.o0 d);replace K5:=K5.k0 d;replace u:=u.z d;clear N d;refine L.append c Aa (by decide) U37 Zc rfl rfl rfl rfl (CF.own) ((Ue eh)) (fun v hv=>Qj hv) (by unfold maxLen; omega) (by omega) fun _ cq Cn cn b8 c=>?_;have a4 : Mod [3] [] B b4 cq:=.of_app b8 CF.own (fun a ha=>Nat.le_trans hB (CF.from a ha)) (by simp);have bb:=Qk CF b8 r.size;replace o:=o.mod a4 (by decide) r.size;replace r:=r.app_new b8 CF;have ag : cl.length + 1 = (cl ++ [x.2]).length:=by simp
  rw [ag] at c;clear ag;have cp:=a4.size;replace BP:=BP.mod a4 (by decide);replace BX:=BX.mod a4 (by decide);replace l:=l.mod a4 (by decide);replace BE:=BE.mod a4 (by decide);replace DF:=DF.mod a4 (by decide);replace K5:=K5.mod a4 (by decide);replace u:=u.mod a4 (by decide);clear a4;refine pe c k2 fun _ c=>?_;refine C.region ?_;(iterate 3 refine L.s c fun _ c=>?_);refine wpList_nil (bl _ _ (cf - 1) ?_ ?_)
  ·omega
  exact ⟨k + 1,cl ++ [x.2],Cn,cn,ds,D,dc,s9,by omega,by rw [M1 hx,← b2,G7,if_pos af],by simp; omega,by omega,by rw [Qi hx,← bm,Q2,if_pos af]; exact ah,by rw [ah]; exact ac.put ⟨af,(hP x a9).1,(hP x a9).2.1⟩ (hP x a9).2.2 (by omega),by rw [ah]; have:=Qh (f:=x.1) (q:=x.2) ac.asc; omega,cb,o,r,K5,BP,BX,l,BE,bb,DF,c.sub (sx (sx (sx (sx (sx (sx (sx (sx (sx (sx sn))))))))))⟩
 have er : k = p.subs.length:=by omega
 subst er;rw [List.take_length] at b2 bm;refine C.cF j rfl ?_;refine wp_exit (k1 _ _ ?_);refine C.sk fun _ k1=>?_;(iterate 4 refine L.s j fun _ j=>?_);refine L.bd j (Zp2 _ _ _ _ _) fun _ j=>?_;have dh : PkR { kind:=9,id:=p.id,codes:=cl }:=S7 ep (by omega) (by omega) (by rw [b2]; exact x0j (fun y hy=>⟨(hP y hy).1,(hP y hy).2.1⟩));refine L.cl j (Bm j Tryz.call34) (Kp B { kind:=9,id:=p.id,codes:=cl } { s0 with ca:=Cq,cc:=cc } _ (Nat.le_trans hB r.size) ⟨Sl.nil _ _ _,Sl.nil _ _ _,Sl.nil _ _ _,Sl.nil _ _ _,CF.sl⟩ dh.2 dh.1) ?_;rintro e w6 ⟨A2,c2,e4,rfl,d,EN,OU⟩;replace OU:=OU.lw r.size;refine ⟨_,rfl,fun _ j=>?_⟩;have e5:=d.size;replace o:=o.mod (Mod.o0 (T:=[]) (M:=[]) (B:=B) d) (by simp) r.size;replace r:=r.trans (.o0 d);replace K:=K.k0 d;replace BP:=BP.z d;replace BX:=BX.z d;replace l:=l.z d;replace BE:=BE.z d;replace CF:=CF.k0 d;replace DF:=DF.k0 d;clear d;refine L.s j fun _ j=>?_;refine L.store j Aa Za2 rfl rfl rfl BE (by (simp [Value.cells]; done)) fun _ w7 j cd a7=>?_;have e6:=a7.size;replace o:=o.mod (Mod.o1 (M:=[]) (B:=B) a7 BE (by omega)) (by decide) r.size;replace r:=r.kN a7 (by simp; omega);replace K:=K.mod (Mod.o1 (M:=[]) a7 BE (by omega)) (by decide);replace BP:=BP.kn a7;replace BX:=BX.kn a7;replace l:=l.kn a7
 replace CF:=CF.mod (Mod.o1 (M:=[]) (B:=B) a7 BE (by omega)) (by decide);replace DF:=DF.mod (Mod.o1 (M:=[]) (B:=B) a7 BE (by omega)) (by decide);replace OU:=OU.mod (Mod.o1 (M:=[]) a7 BE (by omega)) (by decide);replace BE:=cd;simp only [Value.cells,List.setIfInBounds_toArray,List.set_cons_zero,List.set_cons_succ,Nat.reduceAdd,Nat.zero_add] at BE;clear a7;refine wn k1 ?_;refine wp_seq_k fun _ k1=>?_;refine wp_seq_k fun _ k2=>?_;have ej:=x0k SU de dd r o;have HR:=Kept.refl [] w7;refine Ib j k2 fun _ j=>?_;refine wp_block ?_;refine C.loop (fun gk a W=>∃ k : Nat,k + gk = p.subs.length ∧ Kept [] w7 W ∧ Blk W gx 56 #[.slice none 0 0,.slice none 0 0,.slice none 0 0,.slice none 0 0] ∧ Fr 130 a [(9,.pointer (some ⟨gp,0,none⟩)),(11,.pointer (some ⟨gx,0,none⟩)),(12,.pointer (some ⟨gR,0,none⟩)),(13,.pointer (some ⟨gE,0,none⟩)),(14,.slice Cq cl.length cc),(17,.int .i64 k)]) (p.subs.length) ?_ ?_
 ·exact ⟨0,by omega,HR,BX,j.sub (sx (sx (sx (sx (sx (sx sn))))))⟩
 intro c3 _ w8 hI f3 bk;obtain ⟨k,hk,HR,BX,c⟩:=hI
 try clear j
 refine wp_seq_k fun _ k2=>C.sk fun _ k3=>?_;refine L.s c fun _ j=>?_;refine L.s j fun _ j=>?_;refine L.lo j ((BP.z HR).cl rfl) fun _ j=>?_;refine pe j k3 fun _ j=>?_;refine j.sD 74 rfl (fun h3 j=>?_) (fun h3 j=>?_)
 ·obtain ⟨x,hx⟩:=Bn p.subs k (by omega);obtain ⟨bU,oU,ch⟩:=SU.addr (by omega);obtain ⟨ci,eo⟩:=Bn cl k (by omega);obtain ⟨bC,oC,em⟩:=CF.sl.addr (by omega);refine C.cT j rfl ?_;refine wp_skip (k2 _ _ ?_);have c:=j.pk [9,11,12,13,14,17,70,71,72,73,74];refine wp_seq_k fun _ k2=>?_;refine wp_block ?_;refine wp_seq_k fun _ k3=>C.sk fun _ k4=>?_;(iterate 3 refine L.s c fun _ c=>?_);refine L.lo c (y5g (CF.sl.kept HR) em eo) fun _ c=>?_;refine pe c k4 fun _ c=>?_;refine C.sp c (fun h4 c=>?_) (fun h4 c=>?_)
  ·refine wp_exit (k2 _ _ ?_);have m:=c.pk [9,11,12,13,14,17,70,71,72,73,74,77,78,79,80,81];refine C.region ?_;(iterate 3 refine L.s m fun _ m=>?_);refine wpList_nil (bk _ _ (c3 - 1) ?_ ?_)
   ·omega
   exact ⟨k + 1,by omega,HR,BX,m.sub (sx (sx (sx (sx (sx (sx sn))))))⟩
  refine wp_skip (k3 _ _ ?_);refine wp_seq_k fun _ k3=>?_;have ae:=dk w8 1;refine R.begin (S:=fun W=>(Kept [] w7 W) ∧ (Blk W gx 56 #[.slice none 0 0,.slice none 0 0,.slice none 0 0,.slice none 0 0])) (by kernel_rfl) ⟨HR.trans ae (by simp),BX.z ae⟩ ?_;obtain ⟨w9,c5⟩ : ∃ W,W = w8.drewN 1:=⟨_,rfl⟩;rw [← c5] at ae ⊢;clear c5;have b1:=ae.size;replace HR:=HR.trans ae (by simp);replace BX:=BX.z ae;clear ae;refine R.t 0 c rfl ⟨HR,BX⟩ (fun W hW=>(E.loadB c Tryz.underlying56 rfl Zo2 rfl (hW.2) rfl)) fun _ c=>?_;refine rq [1] c fun _ c=>?_;refine R.t 2 c rfl ⟨HR,BX⟩ (fun W hW=>(E.load c U36 rfl rfl (((BP.kept hW.1 (by simp)).cl rfl)))) fun _ c=>?_;refine rq [3,4,5] c fun _ c=>?_;refine R.t 6 c rfl ⟨HR,BX⟩ (fun W hW=>(E.load c U9 rfl rfl ((H9 (ej.kept hW.1) ch hx 0 rfl)))) fun _ c=>?_;refine R.cl 7 c rfl (Bm c Tryz.call66) (x2t x.1 _) ?_;rintro e b4 ⟨d,rfl⟩;have ay:=d.size;replace HR:=HR.trans d (by simp);replace BX:=BX.z d;refine ⟨_,rfl,⟨HR,BX⟩,fun _ c=>?_⟩;clear d;refine rq [8] c fun _ c=>?_;refine R.dn k3 ?_;refine pr c fun _ c=>?_;refine wp_block ?_
  refine C.loop (fun gk a W=>Kept [] w7 W ∧ Blk W gx 56 #[.slice none 0 0,.slice none 0 0,.slice none 0 0,.slice none 0 0] ∧ Fr 130 a [(9,.pointer (some ⟨gp,0,none⟩)),(11,.pointer (some ⟨gx,0,none⟩)),(12,.pointer (some ⟨gR,0,none⟩)),(13,.pointer (some ⟨gE,0,none⟩)),(14,.slice Cq cl.length cc),(17,.int .i64 k),(18,.slice none 0 0),(19,.int .i64 0)]) (0) ?_ ?_
  ·exact ⟨HR,BX,c.sub (sx (sx (sx (sx (sx (sx (sx (sx sn))))))))⟩
  intro f5 _ cq hI f4 en;obtain ⟨HR,BX,m⟩:=hI
  try clear c
  refine wp_seq_k fun _ _=>C.sk fun _ k3=>?_;refine L.s m fun _ c=>?_;refine L.s c fun _ c=>?_;refine L.va c (E.lenL c Tryz.underlying54 rfl) fun _ c=>?_;refine L.s c fun _ c=>?_;have c:=c.as (i:=93) (v':=.bool false) rfl (by rfl);refine wn k3 ?_;refine C.cF c rfl ?_;refine wp_exit (k2 _ _ ?_);refine C.region ?_;(iterate 3 refine L.s c fun _ c=>?_);refine wpList_nil (bk _ _ (c3 - 1) ?_ ?_)
  ·omega
  exact ⟨k + 1,by omega,HR,BX,c.sub (sx (sx (sx (sx (sx (sx sn))))))⟩
 refine C.cF j rfl ?_;refine wp_exit (k1 _ _ ?_);refine wp_seq_k fun _ k1=>?_;replace o:=o.mod (Mod.o0 (T:=[]) (M:=[]) (B:=B) HR) (by simp) r.size;replace r:=r.trans (.o0 HR);replace K:=K.k0 HR;replace OU:=OU.k0 HR;replace BE:=BE.z HR;replace l:=l.z HR;clear HR;refine C.region ?_;refine L.s j fun _ j=>?_;refine L.storeR j Aa Gh rfl rfl rfl l rfl rfl fun _ w9 j ei ax=>?_;have b1:=ax.size;replace o:=o.mod (Mod.o1 (M:=[]) (B:=B) ax l (by omega)) (by decide) r.size;replace r:=r.kN ax (by simp; omega);replace K:=K.mod (Mod.o1 (M:=[]) ax l (by omega)) (by decide);replace OU:=OU.mod (Mod.o1 (M:=[]) ax l (by omega)) (by decide);replace BE:=BE.kn ax;replace l:=ei;clear ax;refine wn k1 (wp_ret ?_); (try simp only [xt,xb]); refine C.retC j rfl rfl l U48 rfl Gh ?_;exact ⟨A2,e4.length,c2,D,ds.length,dc,s',e4,rfl,rfl,K,HQ.abs,HQ.im,HQ.gm,bm,ac,dg,r,o,by rw [b2] at EN; exact EN,OU⟩
end Go.Proofs.YtkdeedhjkjffpaaGreat
namespace Go.Proofs.YtkdeedhjkjffpaaGreat
open Go.RowKit Go.Hub Go.Lib
theorem x7u {w : World} {b : Nat} {a : Option Addr} {n c i : Nat} (h : Blk w b 29 (Ic none a n c)) (hi : i < 16) : w.cell? ⟨b,0 + (i : Int).toNat * 1,none⟩ = some (.pointer none):=by
  rw [T5 h hi]
  split <;> rfl
theorem x7v {i : Nat} {p : Addr} (h : (if i = 0 then some p else none).isSome = false) : i ≠ 0:=fun e=>by
  rw [if_pos e] at h
  cases h
section
variable {B b lp sp sc n c : Nat} {w W W' : World} {A SA : Option Addr} {at_ : Int} {cn : Bool} {s : Rs} {r : Go.Proofs.YtkdeedhjkjffpaaGreat.SA × List Pa}
theorem GiveD.size (h : GiveD B b lp sp SA sc at_ cn s r w n A c W) : w.heap.size ≤ W.heap.size:=by
  obtain ⟨d,o,_,_,_,a,_⟩:=h;exact a.size
theorem GiveD.store {g t : Nat} {cs : Array Value} (h : GiveD B b lp sp SA sc at_ cn s r w n A c W) (d : Kept [g] W W') (j : Blk W g t cs) (k : B ≤ g) (m : w.heap.size ≤ g) (a : ∀ x ∈ ([29,93,76,111,185,160,58,143,79,5,61] : List TypeId),x ∉ [t]) : GiveD B b lp sp SA sc at_ cn s r w n A c W':=by
  obtain ⟨v,o,e,K,L,p,l,i,O,q⟩:=h;have f:=Mod.o1 (M:=[]) d j k;exact ⟨v,o,e,K.mod f (fun x u=>a x (by revert u; exact (by decide : ∀ x ∈ ([29,93,76,111,185,160,58,143,79,5] : List TypeId),x ∈ ([29,93,76,111,185,160,58,143,79,5,61] : List TypeId)) x)),L,p.kN d (by simpa using m),l,i,O.mod f ⟨a _ (by simp),a _ (by simp)⟩,q⟩
end
def x7w (B b lp sp : Nat) (SA : Option Addr) (sc : Nat) (at_ : Int) (cn : Bool) (s : Rs) (r : Go.Proofs.YtkdeedhjkjffpaaGreat.SA × List Pa) (w : World) (e : Ending) (w' : World) : Prop:=∃ A n c,e = .returned (.agg #[.slice A n c,.slice none 0 0,.slice none 0 0,.slice none 0 0]) ∧ GiveD B b lp sp SA sc at_ cn s r w n A c w'
theorem x3a (b : Nat) (SA : Option Addr) (m sc : Nat) (now : Int) (w : World) (a1 : Blk w b 29 (Ic none SA m sc)) : Calls Tryz.prog 11 #[.pointer (some ⟨b,0,none⟩),.int .i64 now] w (fun e w'=>Kept [] w w' ∧ e = .returned (.agg #[.slice none 0 0,.slice none 0 0,.slice none 0 0,.slice none 0 0])):=by
 have d : Kept [] w w:=Kept.refl [] w;refine Bw Tryz.func11 Tryz.ntmps11 fun _ f=>?_;refine C.sk fun _ k=>?_;refine L.alloc f Aa (by decide) (z:=Q9) (fun _=>by kernel_rfl) rfl fun _ w1 g0 N f=>?_;obtain ⟨n,q,a8,ak,ap⟩:=N.al;have a3:=d.lo a8;replace d:=d.z q;clear N q;refine wn k (C.sk fun _ k=>?_);refine L.alloc f Aa (by decide) (z:=Q9) (fun _=>by kernel_rfl) rfl fun _ w2 g1 N f=>?_;obtain ⟨a2,q,a9,ao,aq⟩:=N.al;have a4:=d.lo a9;have aa : g0 ≠ g1:=by have:=n.lt; omega
 replace d:=d.z q;replace n:=n.z q;clear N q;refine wn k ?_;refine wp_seq_k fun _ k=>?_;refine wp_seq_k fun _ r=>?_;obtain ⟨x,rfl⟩ : ∃ g,g = g0:=⟨_,rfl⟩;have l : Blk w2 x 48 #[.slice none 0 0,.slice none 0 0,.slice none 0 0,.slice none 0 0]:=n;have a5 : w.heap.size ≤ x:=a3;clear n;obtain ⟨v,rfl⟩ : ∃ g,g = g1:=⟨_,rfl⟩;have o : Blk w2 v 48 #[.slice none 0 0,.slice none 0 0,.slice none 0 0,.slice none 0 0]:=a2;have ag : w.heap.size ≤ v:=a4;clear a2;have aj : x ≠ v:=by omega
 refine Ib f r fun _ f=>?_;refine wp_block ?_;refine C.loop (fun gk a W=>∃ i : Nat,i + gk = 16 ∧ Kept [] w W ∧ Blk W x 48 #[.slice none 0 0,.slice none 0 0,.slice none 0 0,.slice none 0 0] ∧ Blk W v 48 #[.slice none 0 0,.slice none 0 0,.slice none 0 0,.slice none 0 0] ∧ Fr 116 a [(0,.pointer (some ⟨b,0,none⟩)),(1,.int .i64 now),(4,.pointer (some ⟨x,0,none⟩)),(5,.pointer (some ⟨v,0,none⟩)),(6,.int .i64 i)]) (16) ?_ ?_
 ·exact ⟨0,rfl,d,l,o,f.sub (sx (sx (sx (sx (sx sn)))))⟩
 intro ad _ w3 hI ax a7;obtain ⟨i,hi,d,l,o,c⟩:=hI
 try clear f
 refine wp_seq_k fun _ r=>?_;refine pr c fun _ f=>?_;refine C.sp f (fun h0 f=>?_) (fun h0 f=>?_)
 ·refine wp_skip (r _ _ ?_);have c:=f.pk [0,1,4,5,6,13,14];refine wp_seq_k fun _ r=>?_;refine wp_block ?_;refine C.sk fun _ k2=>?_;(iterate 4 refine L.s c fun _ c=>?_);refine L.va c (E.indexArr c U26 Y5 rfl rfl (by omega) (by omega)) fun _ c=>?_;refine L.lo c (x7u (a1.z d) (i:=i) (by omega)) fun _ c=>?_;refine pe c k2 fun _ c=>?_;refine wp_seq_k fun _ k2=>?_;have j:=dk w3 1;refine R.begin (S:=fun W=>(Kept [] w W)) (by kernel_rfl) (d.z j) ?_;obtain ⟨w4,u⟩ : ∃ W,W = w3.drewN 1:=⟨_,rfl⟩;rw [← u] at j ⊢;clear u;have ar:=j.size;replace d:=d.z j;replace l:=l.z j;replace o:=o.z j;clear j;refine rq [0] c fun _ c=>?_;refine R.p 1 c rfl d (E.neqP c U25 rfl rfl) fun _ c=>?_;have c:=c.as (i:=24) (v':=.bool false) rfl (by rfl);refine R.run [2,3,4,5,6,7,8,9,10,11,12,13,14,15,16,17,18,19,20,21,22,23,24] (tf 25 []) c (by kernel_rfl) (fun _ _ _ _ h=>h) d (by kernel_rfl) fun _ c=>?_;have c:=c.sub (sv 25 (.bool false) (sv 31 (.bool false) (sv 32 (.bool false) (sv 47 (.bool false) (pkD c [0,1,4,5,6,7,13,14,17,18,19,20,21,22,23,24])))));refine R.dn k2 ?_;refine C.cF c rfl ?_;refine wp_skip (r _ _ ?_);refine C.region ?_;(iterate 3 refine L.s c fun _ c=>?_);refine wpList_nil (a7 _ _ (ad - 1) ?_ ?_)
  ·omega
  exact ⟨i + 1,by omega,d,l,o,c.sub (sx (sx (sx (sx (sx sn)))))⟩
 refine wp_exit (k _ _ ?_);refine wp_seq_k fun _ k=>?_;refine pr f fun _ f=>?_;refine wp_block ?_;refine C.loop (fun gk a W=>∃ i : Nat,i + gk = 16 ∧ Kept [] w W ∧ Blk W x 48 #[.slice none 0 0,.slice none 0 0,.slice none 0 0,.slice none 0 0] ∧ Blk W v 48 #[.slice none 0 0,.slice none 0 0,.slice none 0 0,.slice none 0 0] ∧ Fr 116 a [(0,.pointer (some ⟨b,0,none⟩)),(1,.int .i64 now),(4,.pointer (some ⟨x,0,none⟩)),(5,.pointer (some ⟨v,0,none⟩)),(11,.int .i64 i)]) (16) ?_ ?_
 ·exact ⟨0,rfl,d,l,o,f.sub (sx (sx (sx (sx (sx sn)))))⟩
 intro a6 _ w4 hI af y;obtain ⟨i,hi,d,l,o,c⟩:=hI
 try clear f
 refine wp_seq_k fun _ r=>?_;refine pr c fun _ f=>?_;refine C.sp f (fun h1 f=>?_) (fun h1 f=>?_)
 ·refine wp_skip (r _ _ ?_);have c:=f.pk [0,1,4,5,11,82,83];refine wp_seq_k fun _ r=>?_;refine wp_block ?_;refine C.sk fun _ k2=>?_;(iterate 4 refine L.s c fun _ c=>?_);refine L.va c (E.indexArr c U26 Y5 rfl rfl (by omega) (by omega)) fun _ c=>?_;refine L.lo c (x7u (a1.z d) (i:=i) (by omega)) fun _ c=>?_;refine pe c k2 fun _ c=>?_;refine C.sk fun _ k2=>?_;refine L.s c fun _ c=>?_;refine L.va c (E.neqP c U25 rfl rfl) fun _ c=>?_;have c:=c.as (i:=93) (v':=.bool false) rfl (by rfl);refine L.rn c fun _ c=>?_;refine wn k2 ?_;have c:=c.sub (sv 94 (.bool false) (sv 100 (.bool false) (Ft c [0,1,4,5,11,12,82,83,86,87,88,89,90,91,92,93])));refine C.cF c rfl ?_;refine wp_skip (r _ _ ?_);refine C.region ?_;(iterate 3 refine L.s c fun _ c=>?_);refine wpList_nil (y _ _ (a6 - 1) ?_ ?_)
  ·omega
  exact ⟨i + 1,by omega,d,l,o,c.sub (sx (sx (sx (sx (sx sn)))))⟩
 refine wp_exit (k _ _ ?_);refine C.sk fun _ k=>?_;refine L.s f fun _ f=>?_;refine L.storeR f Aa Gh rfl rfl rfl l rfl rfl fun _ w5 f ab t=>?_;have au:=t.size;replace d:=d.nn t a5;replace o:=o.kn t;replace l:=ab;clear t;refine wn k (wp_ret ?_); (try simp only [xt,xb]); refine C.retC f rfl rfl l U48 rfl Gh ?_;exact ⟨d,rfl⟩
theorem x7x (b lp sp : Nat) (SA : Option Addr) (sc : Nat) (at_ : Int) (cn : Bool) (s : Rs) (B : Nat) (w : World) (K : Bk B w b lp sp SA sc at_ cn s) (now : Int) (hB : B ≤ w.heap.size) (b3 : ∀ x ∈ (againS s.abs now 8).2,H3 x) : Calls Tryz.prog 11 #[.pointer (some ⟨b,0,none⟩),.int .i64 now] w (x7w B b lp sp SA sc at_ cn s (againS s.abs now 8) w):=by
 have HK : Kept [] w w:=Kept.refl [] w;refine Bw Tryz.func11 Tryz.ntmps11 fun _ f=>?_;refine C.sk fun _ k=>?_;refine L.alloc f Aa (by decide) (z:=Q9) (fun _=>by kernel_rfl) rfl fun _ w1 g0 N f=>?_;obtain ⟨az,q,bu,cg,ci⟩:=N.al;have bp:=HK.lo bu;replace HK:=HK.z q;clear N q;refine wn k (C.sk fun _ k=>?_);refine L.alloc f Aa (by decide) (z:=Q9) (fun _=>by kernel_rfl) rfl fun _ w2 g1 N f=>?_;obtain ⟨bo,q,bv,ch,cj⟩:=N.al;have bq:=HK.lo bv;have bw : g0 ≠ g1:=by have:=az.lt; omega
 replace HK:=HK.z q;replace az:=az.z q;clear N q;refine wn k ?_;refine wp_seq_k fun _ k=>?_;refine wp_seq_k fun _ k1=>?_;obtain ⟨gR,rfl⟩ : ∃ g,g = g0:=⟨_,rfl⟩;have BR : Blk w2 gR 48 #[.slice none 0 0,.slice none 0 0,.slice none 0 0,.slice none 0 0]:=az;have cc : w.heap.size ≤ gR:=bp;clear az;obtain ⟨gE,rfl⟩ : ∃ g,g = g1:=⟨_,rfl⟩;have r : Blk w2 gE 48 #[.slice none 0 0,.slice none 0 0,.slice none 0 0,.slice none 0 0]:=bo;have cb : w.heap.size ≤ gE:=bq;clear bo;have cf : gR ≠ gE:=by omega
 refine Ib f k1 fun _ f=>?_;refine wp_block ?_;refine C.loop (fun gk a W=>∃ i : Nat,i + gk = 16 ∧ Kept [] w W ∧ Blk W gR 48 #[.slice none 0 0,.slice none 0 0,.slice none 0 0,.slice none 0 0] ∧ Blk W gE 48 #[.slice none 0 0,.slice none 0 0,.slice none 0 0,.slice none 0 0] ∧ Fr 116 a [(0,.pointer (some ⟨b,0,none⟩)),(1,.int .i64 now),(4,.pointer (some ⟨gR,0,none⟩)),(5,.pointer (some ⟨gE,0,none⟩)),(6,.int .i64 i)]) (16) ?_ ?_
 ·exact ⟨0,rfl,HK,BR,r,f.sub (sx (sx (sx (sx (sx sn)))))⟩
 intro br _ w3 hI cp bh;obtain ⟨i,hi,HK,BR,r,d⟩:=hI
 try clear f
 refine wp_seq_k fun _ k1=>?_;refine pr d fun _ f=>?_;refine C.sp f (fun h0 f=>?_) (fun h0 f=>?_)
 ·refine wp_skip (k1 _ _ ?_);have d:=f.pk [0,1,4,5,6,13,14];refine wp_seq_k fun _ k1=>?_;refine wp_block ?_;refine C.sk fun _ k2=>?_;(iterate 4 refine L.s d fun _ d=>?_);refine L.va d (E.indexArr d U26 Y5 rfl rfl (by omega) (by omega)) fun _ d=>?_;refine L.lo d (T5 (K.bb.kept HK (by simp)) (i:=i) (by omega)) fun _ d=>?_;refine pe d k2 fun _ d=>?_;refine wp_seq_k fun _ k2=>?_;have ap:=dk w3 1;refine R.begin (S:=fun W=>(Kept [] w W)) (by kernel_rfl) (HK.z ap) ?_;obtain ⟨w4,bi⟩ : ∃ W,W = w3.drewN 1:=⟨_,rfl⟩;rw [← bi] at ap ⊢;clear bi;have ck:=ap.size;replace HK:=HK.z ap;replace BR:=BR.z ap;replace r:=r.z ap;clear ap;refine rq [0] d fun _ d=>?_;refine R.p 1 d rfl HK (E.neqP d U25 rfl rfl) fun _ d=>?_;refine rq [2] d fun _ d=>?_;refine d.split 25 rfl (fun h1 d=>?_) (fun h1 d=>?_)
  ·have bs : i = 0:=P3 h1;rw [if_pos bs] at d;refine rq [3,4,5] d fun _ l=>?_;refine R.t 6 l rfl HK (fun W hW=>(E.load l U3 rfl rfl (((K.lk.kept hW (by simp)).cl rfl)))) (hw:=l.y) fun _ l=>?_;refine rq [7] l fun _ l=>?_;have l:=l.as (i:=30) (v':=.bool false) rfl (by rfl);refine R.run [8,9,10,11,12,13,14,15,16,17,18,19,20,21,22,23,24] (tf 25 []) l (by kernel_rfl) (fun _ _ _ _ h=>h) HK (by kernel_rfl) fun _ l=>?_;have l:=l.sub (sv 31 (.bool false) (sv 32 (.bool false) (sv 47 (.bool false) (pkD l [0,1,4,5,6,7,13,14,17,18,19,20,21,22,23,24,25,26,27,28,29,30]))));refine R.dn k2 ?_;refine C.cF l rfl ?_;refine wp_skip (k1 _ _ ?_);refine C.region ?_;(iterate 3 refine L.s l fun _ l=>?_);refine wpList_nil (bh _ _ (br - 1) ?_ ?_)
   ·omega
   exact ⟨i + 1,by omega,HK,BR,r,l.sub (sx (sx (sx (sx (sx sn)))))⟩
  refine R.run [3,4,5,6] #[true,true,true,true,true,true,true,false,false,false,false,false,false,false,false,false,false,false,false,false,false,false,false,false,false] d (by kernel_rfl) (fun _ _ _ _ h=>h) HK (by kernel_rfl) fun _ d=>?_;have d:=d.sub (pkD d [0,1,4,5,6,7,13,14,17,18,19,20,21,22,23,24,25]);refine R.ts 7 d rfl HK d.nT fun _ d=>?_;refine R.run [8,9,10,11,12,13,14,15,16,17,18,19,20,21,22,23,24] (tf 25 []) d (by kernel_rfl) (fun _ _ _ _ h=>h) HK (by kernel_rfl) fun _ d=>?_;have d:=d.sub (sv 31 (.bool false) (sv 32 (.bool false) (sv 47 (.bool false) (pkD d [0,1,4,5,6,7,13,14,17,18,19,20,21,22,23,24,25,30]))));refine R.dn k2 ?_;refine C.cF d rfl ?_;refine wp_skip (k1 _ _ ?_);refine C.region ?_;(iterate 3 refine L.s d fun _ d=>?_);refine wpList_nil (bh _ _ (br - 1) ?_ ?_)
  ·omega
  exact ⟨i + 1,by omega,HK,BR,r,d.sub (sx (sx (sx (sx (sx sn)))))⟩
 refine wp_exit (k _ _ ?_);refine wp_seq_k fun _ k=>?_;refine wp_seq_k fun _ k1=>?_;have cr:=hB;refine Ib f k1 fun _ f=>?_;refine wp_block ?_;refine C.loop (fun gk a W=>∃ (i n : Nat) (A : Option Addr) (c : Nat),i + gk = 16 ∧ ((i = 0 ∧ n = 0 ∧ A = none ∧ c = 0 ∧ Kept [] w W) ∨ (0 < i ∧ GiveD B b lp sp SA sc at_ cn s (againS s.abs now 8) w n A c W)) ∧ Blk W b 29 (Ic (some ⟨lp,0,none⟩) SA 1 sc) ∧ Blk W gR 48 #[.slice none 0 0,.slice none 0 0,.slice none 0 0,.slice none 0 0] ∧ Blk W gE 48 #[.slice A n c,.slice none 0 0,.slice none 0 0,.slice none 0 0] ∧ Fr 116 a [(0,.pointer (some ⟨b,0,none⟩)),(1,.int .i64 now),(4,.pointer (some ⟨gR,0,none⟩)),(5,.pointer (some ⟨gE,0,none⟩)),(11,.int .i64 i)]) (16) ?_ ?_
 ·exact ⟨0,0,none,0,rfl,.inl ⟨rfl,rfl,rfl,rfl,HK⟩,K.bb.kept HK (by simp),BR,r,f.sub (sx (sx (sx (sx (sx sn)))))⟩
 intro ab _ w4 hI ca a7;obtain ⟨i,n,A,c,hi,hI,BB,BR,r,d⟩:=hI
 try clear f
 refine wp_seq_k fun _ k1=>?_;refine pr d fun _ f=>?_;refine C.sp f (fun h2 f=>?_) (fun h2 f=>?_)
 ·refine wp_skip (k1 _ _ ?_);have d:=f.pk [0,1,4,5,11,82,83];refine wp_seq_k fun _ k1=>?_;refine wp_block ?_;refine C.sk fun _ k2=>?_;(iterate 4 refine L.s d fun _ d=>?_);refine L.va d (E.indexArr d U26 Y5 rfl rfl (by omega) (by omega)) fun _ d=>?_;refine L.lo d (T5 BB (i:=i) (by omega)) fun _ d=>?_;refine pe d k2 fun _ d=>?_;refine C.sk fun _ k2=>?_;refine L.s d fun _ d=>?_;refine L.va d (E.neqP d U25 rfl rfl) fun _ d=>?_;refine L.s d fun _ d=>?_;refine d.split 94 rfl (fun h3 d=>?_) (fun h3 d=>?_)
  ·have bs : i = 0:=P3 h3;obtain ⟨rfl,rfl,rfl,rfl,HK⟩ : i = 0 ∧ n = 0 ∧ A = none ∧ c = 0 ∧ Kept [] w w4:=hI.resolve_right (by rintro ⟨h9,_⟩; omega);rw [if_pos (rfl : (0 : Nat) = 0)] at d;refine L.s d fun _ l=>?_;(iterate 2 refine L.s l fun _ l=>?_);refine L.lo l ((K.lk.kept HK (by simp)).cl rfl) fun _ l=>?_;refine L.s l fun _ l=>?_;have l:=l.as (i:=99) (v':=.bool true) rfl (by rfl);refine pe l k2 fun _ l=>?_;refine C.cT l rfl ?_;have ac:=dk w4 1;refine R.begin (S:=fun _=>True) (by kernel_rfl) trivial ?_;obtain ⟨w5,bj⟩ : ∃ W,W = w4.drewN 1:=⟨_,rfl⟩;rw [← bj] at ac ⊢;clear bj;have bx:=ac.size;replace HK:=HK.z ac;replace BR:=BR.z ac;replace r:=r.z ac;clear ac;refine rq [0,2,3,4,5,6,9] l fun _ l=>?_;refine R.two 1 7 (by kernel_rfl) ?_ ?_
   ·skip;refine O.val l rfl rfl (by decide) Aa (by exact E.load l U44 rfl rfl ((r).cl rfl)) trivial fun _ j=>?_;refine R.on 7 ?_;refine O.val j rfl rfl (by decide) Aa (by exact E.load j U9 rfl rfl (((K.lk.kept HK (by simp)).cl rfl))) trivial fun _ j=>?_;refine R.on 8 ?_;refine O.call j rfl rfl (by decide) Aa (Bm j Tryz.call25) (Gy b lp sp SA sc at_ cn s B _ (K.k0 HK)) ?_;rintro e bz ⟨rfl,rfl⟩;refine ⟨_,rfl,trivial,fun _ j=>?_⟩;refine R.on 10 ?_;refine O.call j rfl rfl (by decide) Aa (Bm j Tryz.call41) (Hy B sp s now _ (K.k0 HK).se (Nat.le_trans hB HK.size)) ?_;rintro e w6 ⟨s9,A7,c7,aj,rfl,ao,v,a5,q,PK,bn⟩;have HM : Mod [111,185,143,160,58] [s.im,s.gm] B w w6:=Mod.trans (.o0 HK) (q.mono (by decide) (fun _ h9=>h9) (Nat.le_refl _));have K4 : Bk B w6 b lp sp SA sc at_ cn s9:=(K.k0 HK).next q (by decide) ao a5.cl
    have ah : Rs.Lk s s9:=⟨a5.im,a5.gm,a5.ls⟩;obtain ⟨aa,a1⟩:=Prod.mk.inj v;clear v;have v:=aa;clear HK;refine ⟨_,rfl,trivial,fun _ j=>?_⟩;have b6:=q.size;replace BR:=BR.mod q (by decide);replace r:=r.mod q (by decide);clear q;refine R.on 11 ?_;refine O.call j rfl rfl (by decide) Aa (Bm j Tryz.call29) (Gi B aj A7 c7 _ _ (Nat.le_trans hB HM.size) PK (by rw [a1]; exact b3) (by omega)) ?_;rintro e w7 ⟨AV,cV,o,rfl,q,EN,OV⟩;replace OV:=OV.lw HM.size;rw [a1] at EN;have ho : o.length ≤ 10:=by have h1:=congrArg List.length EN.enc; have h2:=congrArg List.length a1; simp at h1 h2; omega
    refine ⟨_,rfl,trivial,fun _ j=>?_⟩;have au:=q.size;replace BR:=BR.z q;replace r:=r.z q;replace HM:=HM.trans (.o0 q);replace K4:=K4.k0 q;replace PK:=PK.k0 q;clear q;refine R.on 12 ?_;refine O.append j rfl Aa (by decide) U44 Ul rfl rfl rfl rfl (Own.nil _ _ _) (OV.fr.sl) (Dr _) (by unfold maxLen; omega) (by omega) fun _ w8 An cn a6=>?_;refine ⟨trivial,fun j=>?_⟩;have m : Kept [] w7 w8:=by simpa [Value.ownBlock] using a6.kept
    have OW : OutsAt B w w8 An cn o:=OV.put a6 HM.size;simp only [Nat.zero_add] at j;have av:=m.size;replace BR:=BR.z m;replace r:=r.z m;replace HM:=HM.trans (.o0 m);replace K4:=K4.k0 m;clear m;refine rq [13] j fun _ j=>?_;refine R.on 14 ?_;refine OT.store j rfl Aa Za2 rfl rfl rfl r (by decide) fun _ w9 j ae u=>?_;have aw:=u.size;replace BR:=BR.kn u;replace HM:=HM.kN u (by simp; omega);replace K4:=K4.mod (Mod.o1 (M:=[]) u r (by omega)) (by decide);replace OW:=OW.mod (Mod.o1 (M:=[]) u r (by omega)) (by decide);replace r:=ae;simp only [Value.cells,List.setIfInBounds_toArray,List.set_cons_zero,List.set_cons_succ,Nat.reduceAdd,Nat.zero_add] at r;clear u;refine R.dn k1 ?_;refine C.region ?_;(iterate 3 refine L.s j fun _ j=>?_);refine wpList_nil (a7 _ _ (ab - 1) ?_ ?_)
    ·omega
    exact ⟨1,o.length,An,cn,by omega,.inr ⟨by omega,⟨s9,o,rfl,K4,ah,HM,v,EN,OW,ho⟩⟩,K4.bb,BR,r,j.sub (sx (sx (sx (sx (sx sn)))))⟩
   skip;refine O.val l rfl rfl (by decide) Aa (by exact E.load l U9 rfl rfl (((K.lk.kept HK (by simp)).cl rfl))) trivial fun _ l=>?_;refine R.two 1 8 (by kernel_rfl) ?_ ?_
   ·skip;refine O.val l rfl rfl (by decide) Aa (by exact E.load l U44 rfl rfl ((r).cl rfl)) trivial fun _ j=>?_;refine R.on 8 ?_;refine O.call j rfl rfl (by decide) Aa (Bm j Tryz.call25) (Gy b lp sp SA sc at_ cn s B _ (K.k0 HK)) ?_;rintro e bz ⟨rfl,rfl⟩;refine ⟨_,rfl,trivial,fun _ j=>?_⟩;refine R.on 10 ?_;refine O.call j rfl rfl (by decide) Aa (Bm j Tryz.call41) (Hy B sp s now _ (K.k0 HK).se (Nat.le_trans hB HK.size)) ?_;rintro e w6 ⟨s9,A7,c7,aj,rfl,ao,v,a5,q,PK,bn⟩;have HM : Mod [111,185,143,160,58] [s.im,s.gm] B w w6:=Mod.trans (.o0 HK) (q.mono (by decide) (fun _ h9=>h9) (Nat.le_refl _));have K4 : Bk B w6 b lp sp SA sc at_ cn s9:=(K.k0 HK).next q (by decide) ao a5.cl
    have ah : Rs.Lk s s9:=⟨a5.im,a5.gm,a5.ls⟩;obtain ⟨aa,a1⟩:=Prod.mk.inj v;clear v;have v:=aa;clear HK;refine ⟨_,rfl,trivial,fun _ j=>?_⟩;have b6:=q.size;replace BR:=BR.mod q (by decide);replace r:=r.mod q (by decide);clear q;refine R.on 11 ?_;refine O.call j rfl rfl (by decide) Aa (Bm j Tryz.call29) (Gi B aj A7 c7 _ _ (Nat.le_trans hB HM.size) PK (by rw [a1]; exact b3) (by omega)) ?_;rintro e w7 ⟨AV,cV,o,rfl,q,EN,OV⟩;replace OV:=OV.lw HM.size;rw [a1] at EN;have ho : o.length ≤ 10:=by have h1:=congrArg List.length EN.enc; have h2:=congrArg List.length a1; simp at h1 h2; omega
    refine ⟨_,rfl,trivial,fun _ j=>?_⟩;have au:=q.size;replace BR:=BR.z q;replace r:=r.z q;replace HM:=HM.trans (.o0 q);replace K4:=K4.k0 q;replace PK:=PK.k0 q;clear q;refine R.on 12 ?_;refine O.append j rfl Aa (by decide) U44 Ul rfl rfl rfl rfl (Own.nil _ _ _) (OV.fr.sl) (Dr _) (by unfold maxLen; omega) (by omega) fun _ w8 An cn a6=>?_;refine ⟨trivial,fun j=>?_⟩;have m : Kept [] w7 w8:=by simpa [Value.ownBlock] using a6.kept
    have OW : OutsAt B w w8 An cn o:=OV.put a6 HM.size;simp only [Nat.zero_add] at j;have av:=m.size;replace BR:=BR.z m;replace r:=r.z m;replace HM:=HM.trans (.o0 m);replace K4:=K4.k0 m;clear m;refine rq [13] j fun _ j=>?_;refine R.on 14 ?_;refine OT.store j rfl Aa Za2 rfl rfl rfl r (by decide) fun _ w9 j ae u=>?_;have aw:=u.size;replace BR:=BR.kn u;replace HM:=HM.kN u (by simp; omega);replace K4:=K4.mod (Mod.o1 (M:=[]) u r (by omega)) (by decide);replace OW:=OW.mod (Mod.o1 (M:=[]) u r (by omega)) (by decide);replace r:=ae;simp only [Value.cells,List.setIfInBounds_toArray,List.set_cons_zero,List.set_cons_succ,Nat.reduceAdd,Nat.zero_add] at r;clear u;refine R.dn k1 ?_;refine C.region ?_;(iterate 3 refine L.s j fun _ j=>?_);refine wpList_nil (a7 _ _ (ab - 1) ?_ ?_)
    ·omega
    exact ⟨1,o.length,An,cn,by omega,.inr ⟨by omega,⟨s9,o,rfl,K4,ah,HM,v,EN,OW,ho⟩⟩,K4.bb,BR,r,j.sub (sx (sx (sx (sx (sx sn)))))⟩
   skip;refine O.call l rfl rfl (by decide) Aa (Bm l Tryz.call25) (Gy b lp sp SA sc at_ cn s B _ (K.k0 HK)) ?_;rintro e bz ⟨rfl,rfl⟩;refine ⟨_,rfl,trivial,fun _ l=>?_⟩;refine R.two 1 10 (by kernel_rfl) ?_ ?_
   ·skip;refine O.val l rfl rfl (by decide) Aa (by exact E.load l U44 rfl rfl ((r).cl rfl)) trivial fun _ j=>?_;refine R.on 10 ?_;refine O.call j rfl rfl (by decide) Aa (Bm j Tryz.call41) (Hy B sp s now _ (K.k0 HK).se (Nat.le_trans hB HK.size)) ?_;rintro e w6 ⟨s9,A7,c7,aj,rfl,ao,v,a5,q,PK,bn⟩;have HM : Mod [111,185,143,160,58] [s.im,s.gm] B w w6:=Mod.trans (.o0 HK) (q.mono (by decide) (fun _ h9=>h9) (Nat.le_refl _));have K4 : Bk B w6 b lp sp SA sc at_ cn s9:=(K.k0 HK).next q (by decide) ao a5.cl
    have ah : Rs.Lk s s9:=⟨a5.im,a5.gm,a5.ls⟩;obtain ⟨aa,a1⟩:=Prod.mk.inj v;clear v;have v:=aa;clear HK;refine ⟨_,rfl,trivial,fun _ j=>?_⟩;have b6:=q.size;replace BR:=BR.mod q (by decide);replace r:=r.mod q (by decide);clear q;refine R.on 11 ?_;refine O.call j rfl rfl (by decide) Aa (Bm j Tryz.call29) (Gi B aj A7 c7 _ _ (Nat.le_trans hB HM.size) PK (by rw [a1]; exact b3) (by omega)) ?_;rintro e w7 ⟨AV,cV,o,rfl,q,EN,OV⟩;replace OV:=OV.lw HM.size;rw [a1] at EN;have ho : o.length ≤ 10:=by have h1:=congrArg List.length EN.enc; have h2:=congrArg List.length a1; simp at h1 h2; omega
    refine ⟨_,rfl,trivial,fun _ j=>?_⟩;have au:=q.size;replace BR:=BR.z q;replace r:=r.z q;replace HM:=HM.trans (.o0 q);replace K4:=K4.k0 q;replace PK:=PK.k0 q;clear q;refine R.on 12 ?_;refine O.append j rfl Aa (by decide) U44 Ul rfl rfl rfl rfl (Own.nil _ _ _) (OV.fr.sl) (Dr _) (by unfold maxLen; omega) (by omega) fun _ w8 An cn a6=>?_;refine ⟨trivial,fun j=>?_⟩;have m : Kept [] w7 w8:=by simpa [Value.ownBlock] using a6.kept
    have OW : OutsAt B w w8 An cn o:=OV.put a6 HM.size;simp only [Nat.zero_add] at j;have av:=m.size;replace BR:=BR.z m;replace r:=r.z m;replace HM:=HM.trans (.o0 m);replace K4:=K4.k0 m;clear m;refine rq [13] j fun _ j=>?_;refine R.on 14 ?_;refine OT.store j rfl Aa Za2 rfl rfl rfl r (by decide) fun _ w9 j ae u=>?_;have aw:=u.size;replace BR:=BR.kn u;replace HM:=HM.kN u (by simp; omega);replace K4:=K4.mod (Mod.o1 (M:=[]) u r (by omega)) (by decide);replace OW:=OW.mod (Mod.o1 (M:=[]) u r (by omega)) (by decide);replace r:=ae;simp only [Value.cells,List.setIfInBounds_toArray,List.set_cons_zero,List.set_cons_succ,Nat.reduceAdd,Nat.zero_add] at r;clear u;refine R.dn k1 ?_;refine C.region ?_;(iterate 3 refine L.s j fun _ j=>?_);refine wpList_nil (a7 _ _ (ab - 1) ?_ ?_)
    ·omega
    exact ⟨1,o.length,An,cn,by omega,.inr ⟨by omega,⟨s9,o,rfl,K4,ah,HM,v,EN,OW,ho⟩⟩,K4.bb,BR,r,j.sub (sx (sx (sx (sx (sx sn)))))⟩
   skip;refine O.call l rfl rfl (by decide) Aa (Bm l Tryz.call41) (Hy B sp s now _ (K.k0 HK).se (Nat.le_trans hB HK.size)) ?_;rintro e w6 ⟨s9,A7,c7,aj,rfl,ao,v,a5,q,PK,bn⟩;have HM : Mod [111,185,143,160,58] [s.im,s.gm] B w w6:=Mod.trans (.o0 HK) (q.mono (by decide) (fun _ h9=>h9) (Nat.le_refl _));have K4 : Bk B w6 b lp sp SA sc at_ cn s9:=(K.k0 HK).next q (by decide) ao a5.cl
   have ah : Rs.Lk s s9:=⟨a5.im,a5.gm,a5.ls⟩;obtain ⟨aa,a1⟩:=Prod.mk.inj v;clear v;have v:=aa;clear HK;refine ⟨_,rfl,trivial,fun _ l=>?_⟩;have b6:=q.size;replace BR:=BR.mod q (by decide);replace r:=r.mod q (by decide);clear q;refine R.two 1 11 (by kernel_rfl) ?_ ?_
   ·skip;refine O.val l rfl rfl (by decide) Aa (by exact E.load l U44 rfl rfl ((r).cl rfl)) trivial fun _ j=>?_;refine R.on 11 ?_;refine O.call j rfl rfl (by decide) Aa (Bm j Tryz.call29) (Gi B aj A7 c7 _ _ (Nat.le_trans hB HM.size) PK (by rw [a1]; exact b3) (by omega)) ?_;rintro e w7 ⟨AV,cV,o,rfl,q,EN,OV⟩;replace OV:=OV.lw HM.size;rw [a1] at EN;have ho : o.length ≤ 10:=by have h1:=congrArg List.length EN.enc; have h2:=congrArg List.length a1; simp at h1 h2; omega
    refine ⟨_,rfl,trivial,fun _ j=>?_⟩;have au:=q.size;replace BR:=BR.z q;replace r:=r.z q;replace HM:=HM.trans (.o0 q);replace K4:=K4.k0 q;replace PK:=PK.k0 q;clear q;refine R.on 12 ?_;refine O.append j rfl Aa (by decide) U44 Ul rfl rfl rfl rfl (Own.nil _ _ _) (OV.fr.sl) (Dr _) (by unfold maxLen; omega) (by omega) fun _ w8 An cn a6=>?_;refine ⟨trivial,fun j=>?_⟩;have m : Kept [] w7 w8:=by simpa [Value.ownBlock] using a6.kept
    have OW : OutsAt B w w8 An cn o:=OV.put a6 HM.size;simp only [Nat.zero_add] at j;have av:=m.size;replace BR:=BR.z m;replace r:=r.z m;replace HM:=HM.trans (.o0 m);replace K4:=K4.k0 m;clear m;refine rq [13] j fun _ j=>?_;refine R.on 14 ?_;refine OT.store j rfl Aa Za2 rfl rfl rfl r (by decide) fun _ w9 j ae u=>?_;have aw:=u.size;replace BR:=BR.kn u;replace HM:=HM.kN u (by simp; omega);replace K4:=K4.mod (Mod.o1 (M:=[]) u r (by omega)) (by decide);replace OW:=OW.mod (Mod.o1 (M:=[]) u r (by omega)) (by decide);replace r:=ae;simp only [Value.cells,List.setIfInBounds_toArray,List.set_cons_zero,List.set_cons_succ,Nat.reduceAdd,Nat.zero_add] at r;clear u;refine R.dn k1 ?_;refine C.region ?_;(iterate 3 refine L.s j fun _ j=>?_);refine wpList_nil (a7 _ _ (ab - 1) ?_ ?_)
    ·omega
    exact ⟨1,o.length,An,cn,by omega,.inr ⟨by omega,⟨s9,o,rfl,K4,ah,HM,v,EN,OW,ho⟩⟩,K4.bb,BR,r,j.sub (sx (sx (sx (sx (sx sn)))))⟩
   skip;refine O.call l rfl rfl (by decide) Aa (Bm l Tryz.call29) (Gi B aj A7 c7 _ _ (Nat.le_trans hB HM.size) PK (by rw [a1]; exact b3) (by omega)) ?_;rintro e w7 ⟨AV,cV,o,rfl,q,EN,OV⟩;replace OV:=OV.lw HM.size;rw [a1] at EN;have ho : o.length ≤ 10:=by have h1:=congrArg List.length EN.enc; have h2:=congrArg List.length a1; simp at h1 h2; omega
   refine ⟨_,rfl,trivial,fun _ l=>?_⟩;have au:=q.size;replace BR:=BR.z q;replace r:=r.z q;replace HM:=HM.trans (.o0 q);replace K4:=K4.k0 q;replace PK:=PK.k0 q;clear q;refine R.on 1 ?_;refine O.val l rfl rfl (by decide) Aa (by exact E.load l U44 rfl rfl ((r).cl rfl)) trivial fun _ l=>?_;refine R.on 12 ?_;refine O.append l rfl Aa (by decide) U44 Ul rfl rfl rfl rfl (Own.nil _ _ _) (OV.fr.sl) (Dr _) (by unfold maxLen; omega) (by omega) fun _ w8 An cn a6=>?_;refine ⟨trivial,fun l=>?_⟩;have m : Kept [] w7 w8:=by simpa [Value.ownBlock] using a6.kept
   have OW : OutsAt B w w8 An cn o:=OV.put a6 HM.size;simp only [Nat.zero_add] at l;have av:=m.size;replace BR:=BR.z m;replace r:=r.z m;replace HM:=HM.trans (.o0 m);replace K4:=K4.k0 m;clear m;refine rq [13] l fun _ l=>?_;refine R.on 14 ?_;refine OT.store l rfl Aa Za2 rfl rfl rfl r (by decide) fun _ w9 l ae u=>?_;have aw:=u.size;replace BR:=BR.kn u;replace HM:=HM.kN u (by simp; omega);replace K4:=K4.mod (Mod.o1 (M:=[]) u r (by omega)) (by decide);replace OW:=OW.mod (Mod.o1 (M:=[]) u r (by omega)) (by decide);replace r:=ae;simp only [Value.cells,List.setIfInBounds_toArray,List.set_cons_zero,List.set_cons_succ,Nat.reduceAdd,Nat.zero_add] at r;clear u;refine R.dn k1 ?_;refine C.region ?_;(iterate 3 refine L.s l fun _ l=>?_);refine wpList_nil (a7 _ _ (ab - 1) ?_ ?_)
   ·omega
   exact ⟨1,o.length,An,cn,by omega,.inr ⟨by omega,⟨s9,o,rfl,K4,ah,HM,v,EN,OW,ho⟩⟩,K4.bb,BR,r,l.sub (sx (sx (sx (sx (sx sn)))))⟩
  have bt : i ≠ 0:=x7v (by exact h3);refine L.skip d d.nT rfl (by decide) fun _ d=>?_;refine L.skip d d.nT rfl (by decide) fun _ d=>?_;refine L.skip d d.nT rfl (by decide) fun _ d=>?_;refine L.skip d d.nT rfl (by decide) fun _ d=>?_;refine L.skip d d.nT rfl (by decide) fun _ d=>?_;refine pe d k2 fun _ d=>?_;refine C.cF d rfl ?_;refine wp_skip (k1 _ _ ?_);refine C.region ?_;(iterate 3 refine L.s d fun _ d=>?_);refine wpList_nil (a7 _ _ (ab - 1) ?_ ?_)
  ·omega
  exact ⟨i + 1,n,A,c,by omega,.inr ⟨by omega,(hI.resolve_left (fun h9=>bt h9.1)).2⟩,BB,BR,r,d.sub (sx (sx (sx (sx (sx sn)))))⟩
 refine wp_exit (k _ _ ?_);refine wp_seq_k fun _ k=>?_;have HD:=(hI.resolve_left (by rintro ⟨h9,_⟩; omega)).2;have cu:=HD.size;refine C.region ?_;refine L.s f fun _ f=>?_;refine L.storeR f Aa Gh rfl rfl rfl BR rfl rfl fun _ w5 f c5 bc=>?_;have bx:=bc.size;replace HD:=HD.store bc BR (by omega) (by omega) (by decide);replace r:=r.kn bc;replace BR:=c5;clear bc;refine wn k (wp_ret ?_); (try simp only [xt,xb]); refine C.retC f rfl rfl BR U48 rfl Gh ?_;exact ⟨A,n,c,rfl,HD⟩
end Go.Proofs.YtkdeedhjkjffpaaGreat
namespace Go.Proofs.YtkdeedhjkjffpaaGreat
open Go.RowKit Go.Hub Go.Lib
theorem Zq2 (a : Int) : Tryz.prog.built 76 [(2,.int .i64 a)] = some #[(.slice none 0 0),(.int .i64 0),(.string ⟨#[]⟩),.int .i64 a,(.int .i64 0),(.bool false),(.bool false),(.string ⟨#[]⟩),(.slice none 0 0),(.int .i64 0),(.bool false)]:=by kernel_rfl
theorem Zr2 : (Tryz.prog.info? 93).map (fun i=>(i.zero,i.size,i.bytes)) = some (some (.pointer none),1,8):=by kernel_rfl
theorem Zs2 : (Tryz.prog.info? 93).map (fun i=>(i.zero,i.size)) = some (some (.pointer none),1):=by kernel_rfl
theorem Zt2 (a : Option Addr) : Instr.fill (fun i=>some (i * 1,1)) ((Array.range (1 * 1)).map fun j=>(Value.cells (.pointer none))[j % (Value.cells (.pointer none)).size]!) [(0,.pointer a)] = some #[.pointer a]:=by kernel_rfl
theorem Zu2 (a : Int) (b : Bool) : Tryz.prog.built 39 [(0,.int .i64 a),(17,.bool b)] = some #[.int .i64 a,(.bool false),(.bool false),(.int .i64 0),(.int .i64 0),(.string ⟨#[]⟩),(.slice none 0 0),(.int .i64 0),(.string ⟨#[]⟩),(.bool false),(.int .i64 0),(.bool false),(.string ⟨#[]⟩),(.slice none 0 0),(.int .i64 0),(.bool false),(.bool false),(.bool false),(.string ⟨#[]⟩),(.slice none 0 0),.bool b,(.int .i64 0),(.slice none 0 0),(.slice none 0 0)]:=by kernel_rfl
section
variable {P : Program} {ops : Array Oper} {Q : Exit → Act → World → Prop} {S : World → Prop} {a : Act} {w : World} {n d : Nat} {l : FL} {t ty : TypeId} {x : Operand} {v : Value} {ps : String} {af : Array Edge} {gd : Option (Nat × Bool)} {i : Nat} {K : Act → World → Prop}
theorem _root_.Go.Hub.O.boxT (f : Fr n a l) (m : ops[i]? = some ⟨some d, .box t x, ty, ps, af, gd⟩) (hw : Region.wanted ⟨some d, .box t x, ty, ps, af, gd⟩ (yielded ops a.tmps) = true) (k : d < n) (o : Ae l x = some v) {cs : Array Value} (b : v.cells = cs)
    (c : ∀ w',Kept [] w w' → S w') (j : ∀ a' w' g,Newb w w' g t cs → S w' → Fr n a' ((d,.pointer (some ⟨g,0,none⟩)) :: l) → K a' w') : wpOp P ops Q i (fun a w=>S w ∧ K a w) a w:=
  O.val f m rfl k hw (E.box f o) (c _ (K7 w t _).kept) fun a' h=>j a' _ _ (b ▸ K7 w t _) (c _ (K7 w t _).kept) h
end
abbrev Wc (cl : Bool) : Array Value:=#[.int .i64 1,.bool false,.bool false,.int .i64 0,.int .i64 0,.string ⟨#[]⟩,.slice none 0 0,.int .i64 4,.string kk,.bool cl,.int .i64 0,.bool false,.string ⟨#[]⟩,.slice none 0 0,.int .i64 0,.bool false,.bool false,.bool false,.string ⟨#[]⟩,.slice none 0 0,.bool false,.int .i64 0,.slice none 0 0,.slice none 0 0]
theorem Ql (now : Int) : Nn Vd now = (Vd,[]):=rfl
theorem y5h {w : World} {g t : Nat} {p : Option Addr} (b : Blk w g t #[.pointer p]) : Sl w (some ⟨g,0,none⟩) 1 1 [.pointer p]:=⟨rfl,fun _=>⟨g,0,rfl,b.lt,fun j u a=>by rw [Nat.zero_add]; exact b.cl a⟩⟩
def x7y (b : Nat) (now : Int) (w : World) (e : Ending) (w' : World) : Prop:=∃ lp,e = .returned (.int .i64 0) ∧ Kept [b] w w' ∧ Blk w' b 29 (Ic (some ⟨lp,0,none⟩) none 0 0) ∧ Blk w' lp 76 (Um ⟨#[]⟩ (Bf now) false) ∧ w.heap.size ≤ lp
def x7z (B b lp : Nat) (at_ : Int) (cl : Bool) (w : World) (e : Ending) (w' : World) : Prop:=∃ sp SA sc s A n c o,e = .returned (.agg #[.slice A n c,.slice none 0 0,.slice none 0 0,.slice none 0 0]) ∧ n = (o : List Oc).length ∧ Bk B w' b lp sp SA sc at_ cl s ∧ s.abs = Vd ∧ s.ls = [] ∧ w.heap.size ≤ s.im ∧ w.heap.size ≤ s.gm ∧ Mod [29,76,111,185,143,160] [s.im,s.gm] B w w' ∧ EncL o ([{ kind:=2 }] ++ [].map Pa.pk) ∧ OutsAt B w w' A c o
theorem x8a (b : Nat) (now : Int) (w : World) (c : Blk w b 29 (Ic none none 0 0)) : Calls Tryz.prog 6 #[.pointer (some ⟨b,0,none⟩),.int .i64 0,.int .i64 now] w (x7y b now w):=by
 have g : Kept [b] w w:=Kept.refl _ w;refine Bw Tryz.func6 Tryz.ntmps6 fun _ f=>?_;refine pr f fun _ f=>?_;refine wp_seq_k fun _ k=>C.sk fun _ k1=>?_;(iterate 2 refine L.s f fun _ f=>?_);have f:=f.as (i:=8) (v':=.bool false) rfl (by rfl);(iterate 3 refine L.s f fun _ f=>?_);have f:=f.as (i:=11) (v':=.bool false) rfl (by rfl);(iterate 6 refine L.s f fun _ f=>?_);refine L.va f (E.indexArr f U26 Y5 rfl rfl (by omega) (by omega)) (hw:=f.y) fun _ f=>?_;refine L.s f fun _ f=>?_;refine L.va f (E.neqP f U25 rfl rfl) (hw:=f.y) fun _ f=>?_;have f:=f.as (i:=20) (v':=.bool false) rfl (by rfl);refine pe f k1 fun _ f=>?_;refine C.cF f rfl ?_;refine wp_skip (k _ _ ?_);refine wp_seq_k fun _ k=>?_;have a:=dk w 1;refine R.begin (S:=fun _=>True) (by kernel_rfl) trivial ?_;obtain ⟨w1,h⟩ : ∃ W,W = w.drewN 1:=⟨_,rfl⟩;rw [← h] at a ⊢;clear h;have v:=a.size;replace g:=g.z a;replace c:=c.z a;clear a;refine rq [0,1,2,6,7] f fun _ f=>?_;refine R.on 3 ?_;refine O.call f rfl rfl (by decide) Aa (Dt f Tryz.call15) (Fw now _) ?_;rintro e a5 ⟨rfl,rfl⟩;refine ⟨_,rfl,trivial,fun _ f=>?_⟩;refine R.p 4 f rfl trivial (E.build f (pL f rfl) (Zq2 _)) fun _ f=>?_;refine R.on 5 ?_;refine O.boxT f rfl Aa (by decide) rfl rfl (fun _ _=>trivial) fun _ w2 g1 N o f=>?_;clear o;obtain ⟨j,q,l,u,a0⟩:=N.al;have r:=g.lo l
 have m : b ≠ g1:=by have:=c.lt; omega
 replace g:=g.z q;replace c:=c.z q;clear N q;refine R.p 8 f rfl trivial (E.indexArr f U26 Y5 rfl rfl (by omega) (by omega)) fun _ f=>?_;refine R.on 9 ?_;refine OT.store f rfl Aa Y5 rfl rfl rfl c (by decide) fun _ w3 f n d=>?_;have a1:=d.size;replace g:=g.trans d (by intro x t a3; simp at t; subst t; simp);replace j:=j.kn d;replace c:=n;simp only [Value.cells,List.setIfInBounds_toArray,List.set_cons_zero,List.set_cons_succ,Nat.reduceAdd,Nat.zero_add] at c;clear d;refine R.dn k ?_;refine rt f ?_;exact ⟨_,rfl,g,c,j,(by omega)⟩
theorem Wf (b lp : Nat) (at_ : Int) (cn cl : Bool) (now : Int) (B : Nat) (w : World) (m : Blk w b 29 (Ic (some ⟨lp,0,none⟩) none 0 0)) (h : Blk w lp 76 (Um ⟨#[]⟩ at_ cn)) (c5 : B ≤ b) (c6 : B ≤ lp) (hB : B ≤ w.heap.size) : Calls Tryz.prog 24 #[.pointer (some ⟨b,0,none⟩),.int .i64 0,.pointer (some ⟨lp,0,none⟩),.agg (Wc cl),.int .i64 now] w (x7z B b lp at_ cl w):=by
 have HK : Kept [] w w:=Kept.refl [] w;have cf:=m;have cg:=h;refine Bw Tryz.func24 Tryz.ntmps24 fun _ f=>?_;refine C.sk fun _ k=>?_;refine L.box f Aa (by decide) rfl rfl fun _ w1 g0 N f=>?_;obtain ⟨b4,q,ct,ef,ek⟩:=N.al;have ck:=HK.lo ct;have dc : b ≠ g0:=by have:=m.lt; omega
 have d2 : lp ≠ g0:=by have:=h.lt; omega
 replace HK:=HK.z q;replace m:=m.z q;replace h:=h.z q;clear N q;refine L.alloc f Aa (by decide) (z:=Q9) (fun _=>by kernel_rfl) rfl fun _ w2 g1 N f=>?_;obtain ⟨ch,q,cu,eg,el⟩:=N.al;have cm:=HK.lo cu;have dd : b ≠ g1:=by have:=m.lt; omega
 have d3 : lp ≠ g1:=by have:=h.lt; omega
 have cw : g0 ≠ g1:=by have:=b4.lt; omega
 replace HK:=HK.z q;replace m:=m.z q;replace h:=h.z q;replace b4:=b4.z q;clear N q;refine wn k ?_;refine wp_seq_k fun _ k=>?_;refine wp_seq_k fun _ k1=>?_;obtain ⟨gp,rfl⟩ : ∃ g,g = g0:=⟨_,rfl⟩;have BP : Blk w2 gp 39 (Wc cl):=b4;have ec : w.heap.size ≤ gp:=ck;clear b4;obtain ⟨gR,rfl⟩ : ∃ g,g = g1:=⟨_,rfl⟩;have r : Blk w2 gR 48 #[.slice none 0 0,.slice none 0 0,.slice none 0 0,.slice none 0 0]:=ch;have ed : w.heap.size ≤ gR:=cm;clear ch;have j : Mod [29,76,111,185,143,160] [] B w w2:=.o0 HK;have e8 : gp ≠ gR ∧ b ≠ lp ∧ b < w.heap.size ∧ lp < w.heap.size:=⟨by omega,Qc cf cg (by decide),cf.lt,cg.lt⟩;clear HK;refine C.region ?_;(iterate 5 refine L.s f fun _ f=>?_);have f:=f.as (i:=23) (v':=.bool false) rfl (by rfl);refine wn k1 ?_;refine C.cF f rfl ?_;refine wp_skip (k _ _ ?_);refine pr f fun _ f=>?_;refine wp_seq_k fun _ k=>C.sk fun _ k1=>?_;(iterate 3 refine L.s f fun _ f=>?_);have f:=f.as (i:=29) (v':=.bool false) rfl (by rfl);refine L.rn f fun _ f=>?_;refine wn k1 ?_;have f:=f.sub (sv 34 (.bool false) (Ft f [0,1,2,4,8,10,11]));refine C.cF f rfl ?_;refine wp_skip (k _ _ ?_);refine wp_seq_k fun _ k=>C.sk fun _ k1=>?_;(iterate 3 refine L.s f fun _ f=>?_);have f:=f.as (i:=37) (v':=.bool false) rfl (by rfl);refine wn k1 ?_;refine C.cF f rfl ?_;refine wp_skip (k _ _ ?_);refine wp_seq_k fun _ k=>C.sk fun _ k1=>?_
 (iterate 2 refine L.s f fun _ f=>?_);have f:=f.as (i:=39) (v':=.bool false) rfl (by rfl);refine wn k1 ?_;refine C.cF f rfl ?_;refine wp_skip (k _ _ ?_);refine wp_seq_k fun _ k=>C.sk fun _ k1=>?_;(iterate 2 refine L.s f fun _ f=>?_);have f:=f.as (i:=48) (v':=.bool false) rfl (by rfl);refine L.rn f fun _ f=>?_;refine wn k1 ?_;have f:=f.sub (sv 55 (.bool false) (Ft f [0,1,2,4,8,10]));refine C.cF f rfl ?_;refine wp_skip (k _ _ ?_);refine pr f fun _ f=>?_;refine wp_seq_k fun _ k=>C.sk fun _ k1=>?_;(iterate 2 refine L.s f fun _ f=>?_);have f:=f.as (i:=62) (v':=.bool false) rfl (by rfl);refine wn k1 ?_;refine C.cF f rfl ?_;refine wp_skip (k _ _ ?_);refine wp_seq_k fun _ k=>?_;have cs:=j.size;refine C.region ?_;refine L.alloc f Aa (by decide) (z:=Q9) (fun _=>by kernel_rfl) rfl fun _ w3 g2 N f=>?_;obtain ⟨ci,q,cv,eh,em⟩:=N.al;have de : b ≠ g2:=by have:=m.lt; omega
 have d4 : lp ≠ g2:=by have:=h.lt; omega
 have d0 : gp ≠ g2:=by have:=BP.lt; omega
 have cy : gR ≠ g2:=by have:=r.lt; omega
 replace j:=j.trans (.o0 q);replace m:=m.z q;replace h:=h.z q;replace BP:=BP.z q;replace r:=r.z q;clear N q;refine wn k ?_;refine wp_seq_k fun _ k=>?_;refine wp_seq_k fun _ k1=>?_;obtain ⟨gE,rfl⟩ : ∃ g,g = g2:=⟨_,rfl⟩;have l : Blk w3 gE 48 #[.slice none 0 0,.slice none 0 0,.slice none 0 0,.slice none 0 0]:=ci;clear ci;have eb : w.heap.size ≤ gE:=Nat.le_trans cs cv;have e9 : gE ≠ gp ∧ gE ≠ gR ∧ gE ≠ b ∧ gE ≠ lp:=by omega
 refine C.region ?_;(iterate 2 refine L.s f fun _ f=>?_);refine L.cl f (Bm f Tryz.call37) (y0n b lp none 0 0 at_ cn _ m h) ?_;rintro e f3 ⟨rfl,rfl⟩;refine ⟨_,rfl,fun _ f=>?_⟩;refine pe f k1 fun _ f=>?_;refine C.sk fun _ k1=>?_;(iterate 2 refine L.s f fun _ f=>?_);have f:=f.as (i:=70) (v':=.bool false) rfl (by rfl);refine wn k1 ?_;refine C.cF f rfl ?_;refine wp_skip (k _ _ ?_);obtain ⟨bk,az⟩ : ∃ J : Act → World → Prop,J = fun a W=>Mod [29,76,111,185,143,160] [] B w W ∧ Blk W b 29 (Ic (some ⟨lp,0,none⟩) none 0 0) ∧ Blk W lp 76 (Um ⟨#[]⟩ at_ cn) ∧ Blk W gp 39 (Wc cl) ∧ Blk W gR 48 #[.slice none 0 0,.slice none 0 0,.slice none 0 0,.slice none 0 0] ∧ Blk W gE 48 #[.slice none 0 0,.slice none 0 0,.slice none 0 0,.slice none 0 0] ∧ Fr 157 a [(0,.pointer (some ⟨b,0,none⟩)),(1,.int .i64 0),(2,.pointer (some ⟨lp,0,none⟩)),(4,.int .i64 now),(8,.pointer (some ⟨gp,0,none⟩)),(10,.pointer (some ⟨gR,0,none⟩)),(12,.string kk),(13,.pointer (some ⟨gE,0,none⟩))]:=⟨_,rfl⟩;refine C.cut bk ?_ ?_
 ·skip;refine pr f fun _ c=>?_;refine C.sb c (fun h0 c=>?_) (fun h0 c=>?_)
  ·refine C.sk fun _ k=>?_;refine L.s c fun _ n=>?_;refine L.s n fun _ n=>?_;refine L.cl n (Bm n Tryz.call57) (Vy b (some ⟨lp,0,none⟩) 0 _ m) ?_;rintro e w4 ⟨rfl,q,dh⟩;replace j:=j.trans ((Mod.o1 (M:=[]) (B:=B) q m (by omega)).mono (by decide) (by simp) (Nat.le_refl _));refine ⟨_,rfl,fun _ n=>?_⟩;have en:=q.size;replace h:=h.kept q (by simp; omega);replace BP:=BP.kept q (by simp; omega);replace r:=r.kept q (by simp; omega);replace l:=l.kept q (by simp; omega);clear q;refine pe n k fun _ n=>?_;refine pr n fun _ n=>?_;refine wp_block ?_;refine C.loop (fun gk a W=>Mod [29,76,111,185,143,160] [] B w W ∧ Blk W b 29 (Ic (some ⟨lp,0,none⟩) none 0 0) ∧ Blk W lp 76 (Um ⟨#[]⟩ at_ cn) ∧ Blk W gp 39 (Wc cl) ∧ Blk W gR 48 #[.slice none 0 0,.slice none 0 0,.slice none 0 0,.slice none 0 0] ∧ Blk W gE 48 #[.slice none 0 0,.slice none 0 0,.slice none 0 0,.slice none 0 0] ∧ Fr 157 a [(0,.pointer (some ⟨b,0,none⟩)),(1,.int .i64 0),(2,.pointer (some ⟨lp,0,none⟩)),(4,.int .i64 now),(8,.pointer (some ⟨gp,0,none⟩)),(10,.pointer (some ⟨gR,0,none⟩)),(12,.string kk),(13,.pointer (some ⟨gE,0,none⟩)),(15,.slice none 0 0),(16,.int .i64 0)]) (0) ?_ ?_
   ·exact ⟨j,dh,h,BP,r,l,n.sub (sx (sx (sx (sx (sx (sx (sx (sx (sx (sx sn))))))))))⟩
   intro e7 _ w5 hI e5 dl;obtain ⟨j,m,h,BP,r,l,cj⟩:=hI
   try clear n
   have dr:=j.size;refine wp_seq_k fun _ _=>C.sk fun _ k=>?_;refine L.s cj fun _ n=>?_;(iterate 3 refine L.s n fun _ n=>?_);have n:=n.as (i:=85) (v':=.bool false) rfl (by rfl);refine wn k ?_;refine C.cF n rfl ?_;exact wp_exit (jK bk (by rw [az]; exact ⟨j,m,h,BP,r,l,n.sub (sx (sx (sx (sx (sx (sx (sx (sx sn))))))))⟩))
  exact wp_skip (jK bk (by rw [az]; exact ⟨j,m,h,BP,r,l,c.sub (sx (sx (sx (sx (sx (sx (sx (sx sn))))))))⟩))
 intro _ w4 hj;rw [az] at hj;clear az bk;obtain ⟨j,m,h,BP,r,l,c⟩:=hj
 try clear f
 have dr:=j.size;refine C.sk fun _ k=>?_;refine L.s c fun _ f=>?_;refine L.s f fun _ f=>?_;refine L.cl f (Bm f Tryz.call25) (x2l b (some ⟨lp,0,none⟩) none 0 kk _ m) ?_;rintro e f5 ⟨rfl,rfl⟩;refine ⟨_,rfl,fun _ f=>?_⟩;refine pe f k fun _ f=>?_;refine C.sk fun _ k=>?_;refine L.s f fun _ f=>?_;refine L.va f (E.neqP f U93 rfl rfl) fun _ f=>?_;have f:=f.as (i:=100) (v':=.bool false) rfl (by rfl);refine pe f k fun _ f=>?_;refine wp_seq_k fun _ k=>C.sk fun _ k1=>?_;refine L.s f fun _ f=>?_;refine L.va f (E.eqlPo f U93 rfl rfl) fun _ f=>?_;have f:=f.as (i:=102) (v':=.bool true) rfl (by rfl);refine wn k1 ?_;refine C.cT f rfl ?_;refine C.sk fun _ k1=>?_;refine L.s f fun _ f=>?_;refine L.cl f (Dt f Tryz.call58) (x6k kk B _ (Nat.le_trans hB j.size)) ?_;rintro e w5 ⟨sp,s,rfl,RE,cq,c8,c9,f0,dp,dm,q⟩;have b9:=Nat.le_trans j.size dp;have b8:=Nat.le_trans j.size dm;replace j:=j.trans (q.mono (by simp) (by simp) (Nat.le_refl _));refine ⟨_,rfl,fun _ f=>?_⟩;have eo:=q.size;replace m:=m.mod q (by decide);replace h:=h.mod q (by decide);replace BP:=BP.mod q (by decide);replace r:=r.mod q (by decide);replace l:=l.mod q (by decide);clear q;refine pe f k1 fun _ f=>?_;refine C.region ?_;(iterate 6 refine L.s f fun _ f=>?_);refine L.buildSlice f Aa (by decide) (pL f rfl) U27 Zs2 rfl rfl (Zt2 _) fun _ w6 g5 N f=>?_;obtain ⟨di,q,ee,ei,ep⟩:=N.al
 have df : b ≠ g5:=by have:=m.lt; omega
 have d5 : lp ≠ g5:=by have:=h.lt; omega
 have d1 : gp ≠ g5:=by have:=BP.lt; omega
 have cz : gR ≠ g5:=by have:=r.lt; omega
 have cx : gE ≠ g5:=by have:=l.lt; omega
 replace m:=m.z q;replace h:=h.z q;replace BP:=BP.z q;replace r:=r.z q;replace l:=l.z q;replace j:=j.trans (.o0 q);replace RE:=RE.k0 q;clear N q;refine L.append f Aa (by decide) U27 Zr2 rfl rfl rfl rfl (Own.nil _ _ _) ((y5h di)) (by simp [Value.oneCell']) (by unfold maxLen; omega) (by omega) fun _ w7 SA sc ce f=>?_;have ac : Kept [] w6 w7:=by simpa [Value.ownBlock] using ce.kept
 have y : Fresh w w7 93 1 SA 1 sc [.pointer (some ⟨sp,0,none⟩)]:=by simpa using ce.next (Fresh.nil w w6 93 1) j.size
 simp only [Nat.zero_add] at f;have er:=ac.size;replace m:=m.z ac;replace h:=h.z ac;replace BP:=BP.z ac;replace r:=r.z ac;replace l:=l.z ac;replace j:=j.trans (.o0 ac);replace RE:=RE.k0 ac;clear ac;(iterate 2 refine L.s f fun _ f=>?_);refine L.store f Aa Zp1 rfl rfl rfl m (by (simp [Value.cells]; done)) fun _ w8 f dj ah=>?_;have es:=ah.size;replace h:=h.kn ah;replace BP:=BP.kn ah;replace r:=r.kn ah;replace l:=l.kn ah;replace j:=j.trans ((Mod.o1 (M:=[]) (B:=B) ah m (by omega)).mono (by decide) (by simp) (Nat.le_refl _));replace RE:=RE.mod (Mod.o1 (M:=[]) ah m (by omega)) (by decide);replace y:=y.mod (Mod.o1 (M:=[]) (B:=B) ah m (by omega)) (by decide);replace m:=dj;simp only [Value.cells,List.setIfInBounds_toArray,List.set_cons_zero,List.set_cons_succ,Nat.reduceAdd,Nat.zero_add] at m;clear ah;refine wn k ?_;refine wp_seq_k fun _ k=>?_;replace m : Blk w8 b 29 (Ic (some ⟨lp,0,none⟩) SA 1 sc):=m;have a7:=dk w8 1;refine R.begin (S:=fun W=>(Blk W gp 39 (Wc cl))) (by kernel_rfl) (BP.z a7) ?_;obtain ⟨w9,bz⟩ : ∃ W,W = w8.drewN 1:=⟨_,rfl⟩;rw [← bz] at a7 ⊢;clear bz;have et:=a7.size;replace h:=h.z a7;replace r:=r.z a7;replace l:=l.z a7;replace j:=j.trans (.o0 a7);replace RE:=RE.k0 a7;replace y:=y.k0 a7;replace m:=m.z a7;replace BP:=BP.z a7;clear a7
 refine rq [0,1,2,3,4,5,6,7,8,9,10,11,12] f fun _ f=>?_;refine R.t 13 f rfl BP (fun W hW=>(E.loadR f U35 rfl Z5 rfl ((Blk.part hW 12 [.string ⟨#[]⟩,.slice none 0 0,.int .i64 0,.bool false] rfl)) rfl)) fun _ f=>?_;refine rq [14,15] f fun _ f=>?_;refine R.on 16 ?_;refine O.store f rfl Aa Z2 rfl rfl rfl h (by simp) (fun _ hk=>BP.kept hk (by simp; omega)) fun _ dy f NB ks=>?_;have ds:=ks.size;replace r:=r.kept ks (by simp; omega);replace l:=l.kept ks (by simp; omega);replace j:=j.trans ((Mod.o1 (M:=[]) (B:=B) ks h (by omega)).mono (by decide) (by simp) (Nat.le_refl _));replace RE:=RE.mod (Mod.o1 (M:=[]) ks h (by omega)) (by decide);replace y:=y.mod (Mod.o1 (M:=[]) (B:=B) ks h (by omega)) (by decide);replace m:=m.kept ks (by simp; omega);replace BP:=BP.kept ks (by simp; omega);replace h : Blk dy lp 76 (Um kk at_ cn):=NB;clear ks;refine rq [17,18] f fun _ f=>?_;refine R.on 19 ?_;refine O.store f rfl Aa Z0 rfl rfl rfl h (by simp) (fun _ hk=>BP.kept hk (by simp; omega)) fun _ dz f NB ks=>?_;have dt:=ks.size;replace r:=r.kept ks (by simp; omega);replace l:=l.kept ks (by simp; omega);replace j:=j.trans ((Mod.o1 (M:=[]) (B:=B) ks h (by omega)).mono (by decide) (by simp) (Nat.le_refl _));replace RE:=RE.mod (Mod.o1 (M:=[]) ks h (by omega)) (by decide);replace y:=y.mod (Mod.o1 (M:=[]) (B:=B) ks h (by omega)) (by decide)
 replace m:=m.kept ks (by simp; omega);replace BP:=BP.kept ks (by simp; omega);replace h : Blk dz lp 76 (Um kk at_ cn):=NB;clear ks;refine rq [20,21] f fun _ f=>?_;refine R.on 22 ?_;refine O.store f rfl Aa Z1 rfl rfl rfl h (by simp) (fun _ hk=>BP.kept hk (by simp; omega)) fun _ e0 f NB ks=>?_;have du:=ks.size;replace r:=r.kept ks (by simp; omega);replace l:=l.kept ks (by simp; omega);replace j:=j.trans ((Mod.o1 (M:=[]) (B:=B) ks h (by omega)).mono (by decide) (by simp) (Nat.le_refl _));replace RE:=RE.mod (Mod.o1 (M:=[]) ks h (by omega)) (by decide);replace y:=y.mod (Mod.o1 (M:=[]) (B:=B) ks h (by omega)) (by decide);replace m:=m.kept ks (by simp; omega);replace BP:=BP.kept ks (by simp; omega);replace h : Blk e0 lp 76 (Um kk at_ cl):=NB;clear ks;refine rq [23,24] f fun _ f=>?_;refine R.on 25 ?_;refine O.store f rfl Aa Z1 rfl rfl rfl h (by simp) (fun _ hk=>BP.kept hk (by simp; omega)) fun _ e1 f NB ks=>?_;have dv:=ks.size;replace r:=r.kept ks (by simp; omega);replace l:=l.kept ks (by simp; omega);replace j:=j.trans ((Mod.o1 (M:=[]) (B:=B) ks h (by omega)).mono (by decide) (by simp) (Nat.le_refl _));replace RE:=RE.mod (Mod.o1 (M:=[]) ks h (by omega)) (by decide);replace y:=y.mod (Mod.o1 (M:=[]) (B:=B) ks h (by omega)) (by decide);replace m:=m.kept ks (by simp; omega);replace BP:=BP.kept ks (by simp; omega)
 replace h : Blk e1 lp 76 (Um kk at_ cl):=NB;clear ks;refine rq [26,27] f fun _ f=>?_;refine R.on 28 ?_;refine O.storeSeg f rfl Aa Z5 rfl rfl rfl h (by simp) rfl (fun _ hk=>BP.kept hk (by simp; omega)) fun _ cb f NB ks=>?_;have dw:=ks.size;replace r:=r.kept ks (by simp; omega);replace l:=l.kept ks (by simp; omega);replace j:=j.trans ((Mod.o1 (M:=[]) (B:=B) ks h (by omega)).mono (by decide) (by simp) (Nat.le_refl _));replace RE:=RE.mod (Mod.o1 (M:=[]) ks h (by omega)) (by decide);replace y:=y.mod (Mod.o1 (M:=[]) (B:=B) ks h (by omega)) (by decide);replace m:=m.kept ks (by simp; omega);replace BP:=BP.kept ks (by simp; omega);replace h : Blk cb lp 76 (Um kk at_ cl):=NB;clear ks;refine R.dn k ?_
 obtain ⟨bl,b0⟩ : ∃ J : Act → World → Prop,J = fun a W=>∃ (a4 : List Oc) (A3 : Option Addr) (c3 : Nat),a4.length = 1 ∧ EncL a4 [{ kind:=2 }] ∧ OutsAt B w W A3 c3 a4 ∧ Mod [29,76,111,185,143,160] [] B w W ∧ Blk W b 29 (Ic (some ⟨lp,0,none⟩) SA 1 sc) ∧ Blk W lp 76 (Um kk at_ cl) ∧ Blk W gR 48 #[.slice none 0 0,.slice none 0 0,.slice none 0 0,.slice none 0 0] ∧ Blk W gE 48 #[.slice A3 a4.length c3,.slice none 0 0,.slice none 0 0,.slice none 0 0] ∧ Fresh w W 93 1 SA 1 sc [.pointer (some ⟨sp,0,none⟩)] ∧ RefAt B W sp s ∧ Fr 157 a [(1,.int .i64 0),(4,.int .i64 now),(10,.pointer (some ⟨gR,0,none⟩)),(13,.pointer (some ⟨gE,0,none⟩)),(17,.pointer (some ⟨sp,0,none⟩))]:=⟨_,rfl⟩;refine C.cut bl ?_ ?_
 ·skip;have aa:=dk cb 1;refine R.begin (S:=fun _=>True) (by kernel_rfl) trivial ?_;obtain ⟨cc,ba⟩ : ∃ W,W = cb.drewN 1:=⟨_,rfl⟩;rw [← ba] at aa ⊢;clear ba;have dx:=aa.size;replace r:=r.z aa;replace l:=l.z aa;replace j:=j.trans (.o0 aa);replace RE:=RE.k0 aa;replace y:=y.k0 aa;replace m:=m.z aa;replace BP:=BP.z aa;replace h:=h.z aa;clear aa;refine rq [0,2,3] f fun _ c=>?_;refine R.p 4 c rfl trivial (E.build c (pL c rfl) (Zu2 _ _)) fun _ c=>?_;refine R.two 1 5 (by kernel_rfl) ?_ ?_
  ·skip;refine O.val c rfl rfl (by decide) Aa (by exact E.load c U44 rfl rfl ((l).cl rfl)) trivial fun _ n=>?_;refine R.on 5 ?_;refine O.call n rfl rfl (by decide) Aa (Bm n Tryz.call34) (Kp B { kind:=2 } s0 _ (Nat.le_trans hB j.size) ⟨Sl.nil _ _ _,Sl.nil _ _ _,Sl.nil _ _ _,Sl.nil _ _ _,Sl.nil _ _ _⟩ I9.2 I9.1) ?_;rintro e bu ⟨A2,c2,a4,rfl,q,EN,OU⟩;replace OU:=OU.lw j.size;have br : a4.length = 1:=by have h1:=congrArg List.length EN.enc; simpa using h1
   refine ⟨_,rfl,trivial,fun _ n=>?_⟩;have bc:=q.size;replace r:=r.z q;replace l:=l.z q;replace j:=j.trans (.o0 q);replace RE:=RE.k0 q;replace y:=y.k0 q;replace m:=m.z q;replace BP:=BP.z q;replace h:=h.z q;clear q;refine R.on 6 ?_;refine O.append n rfl Aa (by decide) U44 Ul rfl rfl rfl rfl (Own.nil _ _ _) (OU.fr.sl) (Dr _) (by unfold maxLen; omega) (by omega) fun _ aw A3 c3 aj=>?_;refine ⟨trivial,fun n=>?_⟩;have x : Kept [] bu aw:=by simpa [Value.ownBlock] using aj.kept
   have OW : OutsAt B w aw A3 c3 a4:=OU.put aj j.size;simp only [Nat.zero_add] at n;have av:=x.size;replace r:=r.z x;replace l:=l.z x;replace j:=j.trans (.o0 x);replace RE:=RE.k0 x;replace y:=y.k0 x;replace m:=m.z x;replace BP:=BP.z x;replace h:=h.z x;clear x;refine rq [7] n fun _ n=>?_;refine R.on 8 ?_;refine OT.store n rfl Aa Za2 rfl rfl rfl l (by decide) fun _ ax n b5 a0=>?_;have ai:=a0.size;replace r:=r.kn a0;replace j:=j.kN a0 (by simp; omega);replace RE:=RE.mod (Mod.o1 (M:=[]) a0 l (by omega)) (by decide);replace y:=y.mod (Mod.o1 (M:=[]) (B:=B) a0 l (by omega)) (by decide);replace m:=m.kn a0;replace BP:=BP.kn a0;replace h:=h.kn a0;replace OW:=OW.mod (Mod.o1 (M:=[]) a0 l (by omega)) (by decide);replace l:=b5;simp only [Value.cells,List.setIfInBounds_toArray,List.set_cons_zero,List.set_cons_succ,Nat.reduceAdd,Nat.zero_add] at l;clear a0;exact R.done (by kernel_rfl) (jK bl (by rw [b0]; exact ⟨a4,A3,c3,br,EN,OW,j,m,h,r,l,y,RE,n.sub (sx (sx (sx (sx (sx sn)))))⟩))
  skip;refine O.call c rfl rfl (by decide) Aa (Bm c Tryz.call34) (Kp B { kind:=2 } s0 _ (Nat.le_trans hB j.size) ⟨Sl.nil _ _ _,Sl.nil _ _ _,Sl.nil _ _ _,Sl.nil _ _ _,Sl.nil _ _ _⟩ I9.2 I9.1) ?_;rintro e bu ⟨A2,c2,a4,rfl,q,EN,OU⟩;replace OU:=OU.lw j.size;have br : a4.length = 1:=by have h1:=congrArg List.length EN.enc; simpa using h1
  refine ⟨_,rfl,trivial,fun _ c=>?_⟩;have bc:=q.size;replace r:=r.z q;replace l:=l.z q;replace j:=j.trans (.o0 q);replace RE:=RE.k0 q;replace y:=y.k0 q;replace m:=m.z q;replace BP:=BP.z q;replace h:=h.z q;clear q;refine R.on 1 ?_;refine O.val c rfl rfl (by decide) Aa (by exact E.load c U44 rfl rfl ((l).cl rfl)) trivial fun _ c=>?_;refine R.on 6 ?_;refine O.append c rfl Aa (by decide) U44 Ul rfl rfl rfl rfl (Own.nil _ _ _) (OU.fr.sl) (Dr _) (by unfold maxLen; omega) (by omega) fun _ aw A3 c3 aj=>?_;refine ⟨trivial,fun c=>?_⟩;have x : Kept [] bu aw:=by simpa [Value.ownBlock] using aj.kept
  have OW : OutsAt B w aw A3 c3 a4:=OU.put aj j.size;simp only [Nat.zero_add] at c;have av:=x.size;replace r:=r.z x;replace l:=l.z x;replace j:=j.trans (.o0 x);replace RE:=RE.k0 x;replace y:=y.k0 x;replace m:=m.z x;replace BP:=BP.z x;replace h:=h.z x;clear x;refine rq [7] c fun _ c=>?_;refine R.on 8 ?_;refine OT.store c rfl Aa Za2 rfl rfl rfl l (by decide) fun _ ax c b5 a0=>?_;have ai:=a0.size;replace r:=r.kn a0;replace j:=j.kN a0 (by simp; omega);replace RE:=RE.mod (Mod.o1 (M:=[]) a0 l (by omega)) (by decide);replace y:=y.mod (Mod.o1 (M:=[]) (B:=B) a0 l (by omega)) (by decide);replace m:=m.kn a0;replace BP:=BP.kn a0;replace h:=h.kn a0;replace OW:=OW.mod (Mod.o1 (M:=[]) a0 l (by omega)) (by decide);replace l:=b5;simp only [Value.cells,List.setIfInBounds_toArray,List.set_cons_zero,List.set_cons_succ,Nat.reduceAdd,Nat.zero_add] at l;clear a0;exact R.done (by kernel_rfl) (jK bl (by rw [b0]; exact ⟨a4,A3,c3,br,EN,OW,j,m,h,r,l,y,RE,c.sub (sx (sx (sx (sx (sx sn)))))⟩))
 intro _ cc hj;rw [b0] at hj;clear b0 bl;obtain ⟨a4,A3,c3,br,EN,OW,j,m,h,r,l,y,RE,c⟩:=hj
 try clear f
 have ej:=j.size;refine wp_seq_k fun _ k=>?_;have ab:=dk cc 1;refine R.begin (S:=fun _=>True) (by kernel_rfl) trivial ?_;obtain ⟨bu,bb⟩ : ∃ W,W = cc.drewN 1:=⟨_,rfl⟩;rw [← bb] at ab ⊢;clear bb;have bc:=ab.size;replace j:=j.trans (.o0 ab);replace m:=m.z ab;replace h:=h.z ab;replace r:=r.z ab;replace l:=l.z ab;replace y:=y.k0 ab;replace RE:=RE.k0 ab;replace OW:=OW.k0 ab;clear ab;refine rq [0,2,3,4] c fun _ f=>?_;refine R.two 1 5 (by kernel_rfl) ?_ ?_
 ·skip;refine O.val f rfl rfl (by decide) Aa (by exact E.load f U44 rfl rfl ((l).cl rfl)) trivial fun _ c=>?_;refine R.on 5 ?_;refine O.call c rfl rfl (by decide) Aa (Bm c Tryz.call59) (M7 B sp s now _ RE (Nat.le_trans hB j.size)) ?_;rintro e aw ⟨s9,A7,c7,bs,rfl,a1,ar,a6,q,PK,dq⟩;replace j:=(j.mono (fun _ h9=>h9) (M':=[s.im,s.gm]) (by simp) (Nat.le_refl _)).trans (q.mono (by decide) (fun _ h9=>h9) (Nat.le_refl _));rw [cq,Ql] at ar;obtain ⟨b1,af⟩:=Prod.mk.inj ar;refine ⟨_,rfl,trivial,fun _ c=>?_⟩;have av:=q.size;replace m:=m.mod q (by decide);replace h:=h.mod q (by decide);replace r:=r.mod q (by decide);replace l:=l.mod q (by decide);replace y:=y.mod q (by decide);replace OW:=OW.mod q (by decide);clear q;refine R.on 6 ?_;refine O.call c rfl rfl (by decide) Aa (Bm c Tryz.call29) (Gi B bs A7 c7 _ _ (Nat.le_trans hB j.size) PK (by rw [af]; simp) (by omega)) ?_;rintro e ax ⟨AV,cV,o,rfl,q,ae,OV⟩;replace OV:=OV.lw j.size;rw [af] at ae;have ho : o.length = 0:=by have h1:=congrArg List.length ae.enc; simpa using h1
  refine ⟨_,rfl,trivial,fun _ c=>?_⟩;have ai:=q.size;replace m:=m.z q;replace h:=h.z q;replace r:=r.z q;replace l:=l.z q;replace y:=y.k0 q;replace OW:=OW.k0 q;replace j:=j.trans (.o0 q);replace a1:=a1.k0 q;replace PK:=PK.k0 q;clear q;refine R.on 7 ?_;refine O.append c rfl Aa (by decide) U44 Ul rfl rfl rfl rfl (OW.fr.own) (OV.fr.sl) (Dr _) (by unfold maxLen; omega) (by omega) fun _ au A4 c4 a8=>?_;refine ⟨trivial,fun c=>?_⟩;have d : Mod [61] [] B ax au:=.of_app a8 OW.fr.own (fun a ha=>Nat.le_trans hB (OW.fr.from a ha)) (by simp);have OX : OutsAt B w au A4 c4 (a4 ++ o):=OW.app hB a8 j.size OV.by_;replace j:=j.app_new a8 OW.fr;rw [← List.length_append] at c;have bd:=d.size;replace m:=m.mod d (by decide);replace h:=h.mod d (by decide);replace r:=r.mod d (by decide);replace l:=l.mod d (by decide);replace y:=y.mod d (by decide);replace a1:=a1.mod d (by decide);clear d;refine rq [8] c fun _ c=>?_;refine R.on 9 ?_;refine OT.store c rfl Aa Za2 rfl rfl rfl l (by (simp [Value.cells]; done)) fun _ d6 c ak u=>?_;have bf:=u.size;replace m:=m.kn u;replace h:=h.kn u;replace r:=r.kn u;replace y:=y.mod (Mod.o1 (M:=[]) (B:=B) u l (by omega)) (by decide);replace a1:=a1.mod (Mod.o1 (M:=[]) u l (by omega)) (by decide)
  replace j:=j.kN u (by simp; omega);replace OX:=OX.mod (Mod.o1 (M:=[]) u l (by omega)) (by decide);replace l:=ak;simp only [Value.cells,List.setIfInBounds_toArray,List.set_cons_zero,List.set_cons_succ,Nat.reduceAdd,Nat.zero_add] at l;clear u;refine R.dn k ?_;refine C.sk fun _ k1=>?_;refine L.s c fun _ c=>?_;refine L.storeR c Aa Gh rfl rfl rfl r rfl rfl fun _ d7 c ao v=>?_;have bg:=v.size;replace m:=m.kn v;replace h:=h.kn v;replace y:=y.mod (Mod.o1 (M:=[]) (B:=B) v r (by omega)) (by decide);replace a1:=a1.mod (Mod.o1 (M:=[]) v r (by omega)) (by decide);replace j:=j.kN v (by simp; omega);replace OX:=OX.mod (Mod.o1 (M:=[]) v r (by omega)) (by decide);replace l:=l.kn v;replace r:=ao;clear v;refine wn k1 (wp_ret ?_); (try simp only [xt,xb]); refine C.retC c rfl rfl r U48 rfl Gh ?_;exact ⟨sp,SA,sc,s9,A4,(a4 ++ o).length,c4,a4 ++ o,rfl,rfl,⟨m,y.own,h,a1,a6.cl.trans c8,c5,c6,fun a ha=>Nat.le_trans hB (y.from a ha)⟩,b1,a6.ls.trans c9,by rw [a6.im]; exact b9,by rw [a6.gm]; exact b8,by rw [a6.im,a6.gm]; exact j,EN.app ae,OX⟩
 skip;refine O.call f rfl rfl (by decide) Aa (Bm f Tryz.call59) (M7 B sp s now _ RE (Nat.le_trans hB j.size)) ?_;rintro e aw ⟨s9,A7,c7,bs,rfl,a1,ar,a6,q,PK,dq⟩;replace j:=(j.mono (fun _ h9=>h9) (M':=[s.im,s.gm]) (by simp) (Nat.le_refl _)).trans (q.mono (by decide) (fun _ h9=>h9) (Nat.le_refl _));rw [cq,Ql] at ar;obtain ⟨b1,af⟩:=Prod.mk.inj ar;refine ⟨_,rfl,trivial,fun _ f=>?_⟩;have av:=q.size;replace m:=m.mod q (by decide);replace h:=h.mod q (by decide);replace r:=r.mod q (by decide);replace l:=l.mod q (by decide);replace y:=y.mod q (by decide);replace OW:=OW.mod q (by decide);clear q;refine R.two 1 6 (by kernel_rfl) ?_ ?_
 ·skip;refine O.val f rfl rfl (by decide) Aa (by exact E.load f U44 rfl rfl ((l).cl rfl)) trivial fun _ c=>?_;refine R.on 6 ?_;refine O.call c rfl rfl (by decide) Aa (Bm c Tryz.call29) (Gi B bs A7 c7 _ _ (Nat.le_trans hB j.size) PK (by rw [af]; simp) (by omega)) ?_;rintro e ax ⟨AV,cV,o,rfl,q,ae,OV⟩;replace OV:=OV.lw j.size;rw [af] at ae;have ho : o.length = 0:=by have h1:=congrArg List.length ae.enc; simpa using h1
  refine ⟨_,rfl,trivial,fun _ c=>?_⟩;have ai:=q.size;replace m:=m.z q;replace h:=h.z q;replace r:=r.z q;replace l:=l.z q;replace y:=y.k0 q;replace OW:=OW.k0 q;replace j:=j.trans (.o0 q);replace a1:=a1.k0 q;replace PK:=PK.k0 q;clear q;refine R.on 7 ?_;refine O.append c rfl Aa (by decide) U44 Ul rfl rfl rfl rfl (OW.fr.own) (OV.fr.sl) (Dr _) (by unfold maxLen; omega) (by omega) fun _ au A4 c4 a8=>?_;refine ⟨trivial,fun c=>?_⟩;have d : Mod [61] [] B ax au:=.of_app a8 OW.fr.own (fun a ha=>Nat.le_trans hB (OW.fr.from a ha)) (by simp);have OX : OutsAt B w au A4 c4 (a4 ++ o):=OW.app hB a8 j.size OV.by_;replace j:=j.app_new a8 OW.fr;rw [← List.length_append] at c;have bd:=d.size;replace m:=m.mod d (by decide);replace h:=h.mod d (by decide);replace r:=r.mod d (by decide);replace l:=l.mod d (by decide);replace y:=y.mod d (by decide);replace a1:=a1.mod d (by decide);clear d;refine rq [8] c fun _ c=>?_;refine R.on 9 ?_;refine OT.store c rfl Aa Za2 rfl rfl rfl l (by (simp [Value.cells]; done)) fun _ d6 c ak u=>?_;have bf:=u.size;replace m:=m.kn u;replace h:=h.kn u;replace r:=r.kn u;replace y:=y.mod (Mod.o1 (M:=[]) (B:=B) u l (by omega)) (by decide);replace a1:=a1.mod (Mod.o1 (M:=[]) u l (by omega)) (by decide)
  replace j:=j.kN u (by simp; omega);replace OX:=OX.mod (Mod.o1 (M:=[]) u l (by omega)) (by decide);replace l:=ak;simp only [Value.cells,List.setIfInBounds_toArray,List.set_cons_zero,List.set_cons_succ,Nat.reduceAdd,Nat.zero_add] at l;clear u;refine R.dn k ?_;refine C.sk fun _ k1=>?_;refine L.s c fun _ c=>?_;refine L.storeR c Aa Gh rfl rfl rfl r rfl rfl fun _ d7 c ao v=>?_;have bg:=v.size;replace m:=m.kn v;replace h:=h.kn v;replace y:=y.mod (Mod.o1 (M:=[]) (B:=B) v r (by omega)) (by decide);replace a1:=a1.mod (Mod.o1 (M:=[]) v r (by omega)) (by decide);replace j:=j.kN v (by simp; omega);replace OX:=OX.mod (Mod.o1 (M:=[]) v r (by omega)) (by decide);replace l:=l.kn v;replace r:=ao;clear v;refine wn k1 (wp_ret ?_); (try simp only [xt,xb]); refine C.retC c rfl rfl r U48 rfl Gh ?_;exact ⟨sp,SA,sc,s9,A4,(a4 ++ o).length,c4,a4 ++ o,rfl,rfl,⟨m,y.own,h,a1,a6.cl.trans c8,c5,c6,fun a ha=>Nat.le_trans hB (y.from a ha)⟩,b1,a6.ls.trans c9,by rw [a6.im]; exact b9,by rw [a6.gm]; exact b8,by rw [a6.im,a6.gm]; exact j,EN.app ae,OX⟩
 skip;refine O.call f rfl rfl (by decide) Aa (Bm f Tryz.call29) (Gi B bs A7 c7 _ _ (Nat.le_trans hB j.size) PK (by rw [af]; simp) (by omega)) ?_;rintro e ax ⟨AV,cV,o,rfl,q,ae,OV⟩;replace OV:=OV.lw j.size;rw [af] at ae;have ho : o.length = 0:=by have h1:=congrArg List.length ae.enc; simpa using h1
 refine ⟨_,rfl,trivial,fun _ f=>?_⟩;have ai:=q.size;replace m:=m.z q;replace h:=h.z q;replace r:=r.z q;replace l:=l.z q;replace y:=y.k0 q;replace OW:=OW.k0 q;replace j:=j.trans (.o0 q);replace a1:=a1.k0 q;replace PK:=PK.k0 q;clear q;refine R.on 1 ?_;refine O.val f rfl rfl (by decide) Aa (by exact E.load f U44 rfl rfl ((l).cl rfl)) trivial fun _ f=>?_;refine R.on 7 ?_;refine O.append f rfl Aa (by decide) U44 Ul rfl rfl rfl rfl (OW.fr.own) (OV.fr.sl) (Dr _) (by unfold maxLen; omega) (by omega) fun _ au A4 c4 a8=>?_;refine ⟨trivial,fun f=>?_⟩;have d : Mod [61] [] B ax au:=.of_app a8 OW.fr.own (fun a ha=>Nat.le_trans hB (OW.fr.from a ha)) (by simp);have OX : OutsAt B w au A4 c4 (a4 ++ o):=OW.app hB a8 j.size OV.by_;replace j:=j.app_new a8 OW.fr;rw [← List.length_append] at f;have bd:=d.size;replace m:=m.mod d (by decide);replace h:=h.mod d (by decide);replace r:=r.mod d (by decide);replace l:=l.mod d (by decide);replace y:=y.mod d (by decide);replace a1:=a1.mod d (by decide);clear d;refine rq [8] f fun _ f=>?_;refine R.on 9 ?_;refine OT.store f rfl Aa Za2 rfl rfl rfl l (by (simp [Value.cells]; done)) fun _ d6 f ak u=>?_;have bf:=u.size;replace m:=m.kn u;replace h:=h.kn u;replace r:=r.kn u
 replace y:=y.mod (Mod.o1 (M:=[]) (B:=B) u l (by omega)) (by decide);replace a1:=a1.mod (Mod.o1 (M:=[]) u l (by omega)) (by decide);replace j:=j.kN u (by simp; omega);replace OX:=OX.mod (Mod.o1 (M:=[]) u l (by omega)) (by decide);replace l:=ak;simp only [Value.cells,List.setIfInBounds_toArray,List.set_cons_zero,List.set_cons_succ,Nat.reduceAdd,Nat.zero_add] at l;clear u;refine R.dn k ?_;refine C.sk fun _ k=>?_;refine L.s f fun _ f=>?_;refine L.storeR f Aa Gh rfl rfl rfl r rfl rfl fun _ d7 f ao v=>?_;have bg:=v.size;replace m:=m.kn v;replace h:=h.kn v;replace y:=y.mod (Mod.o1 (M:=[]) (B:=B) v r (by omega)) (by decide);replace a1:=a1.mod (Mod.o1 (M:=[]) v r (by omega)) (by decide);replace j:=j.kN v (by simp; omega);replace OX:=OX.mod (Mod.o1 (M:=[]) v r (by omega)) (by decide);replace l:=l.kn v;replace r:=ao;clear v;refine wn k (wp_ret ?_); (try simp only [xt,xb]); refine C.retC f rfl rfl r U48 rfl Gh ?_;exact ⟨sp,SA,sc,s9,A4,(a4 ++ o).length,c4,a4 ++ o,rfl,rfl,⟨m,y.own,h,a1,a6.cl.trans c8,c5,c6,fun a ha=>Nat.le_trans hB (y.from a ha)⟩,b1,a6.ls.trans c9,by rw [a6.im]; exact b9,by rw [a6.gm]; exact b8,by rw [a6.im,a6.gm]; exact j,EN.app ae,OX⟩
end Go.Proofs.YtkdeedhjkjffpaaGreat
namespace Go.Proofs.YtkdeedhjkjffpaaGreat
open Go.RowKit Go.Hub Go.Lib
def x3b (B b lp : Nat) (cl : Bool) (now : Int) (w : World) (e : Ending) (w' : World) : Prop:=∃ sp SA sc s A n c o,e = .returned (.tuple #[.agg #[.slice A n c,.slice none 0 0,.slice none 0 0,.slice none 0 0],.int .i64 0]) ∧ n = (o : List Oc).length ∧ Bk B w' b lp sp SA sc (Bf now) cl s ∧ s.abs = Vd ∧ s.ls = [] ∧ w.heap.size ≤ s.im ∧ w.heap.size ≤ s.gm ∧ Mod [29,76,111,185,143,160] [s.im,s.gm] B w w' ∧ EncL o ([{ kind:=2 }] ++ [].map Pa.pk) ∧ OutsAt B w w' A c o
theorem Uf (b lp sp : Nat) (SA : Option Addr) (sc : Nat) (at_ : Int) (cn : Bool) (s : Rs) (B : Nat) (w : World) (K : Bk B w b lp sp SA sc at_ cn s) (y : s.ls.length ≤ 1000000) (p : Pk) (ad : Ad) (now : Int) : Calls Tryz.prog 24 #[.pointer (some ⟨b,0,none⟩),.int .i64 0,.pointer (some ⟨lp,0,none⟩),.agg (p.cells ad),.int .i64 now] w (x0e B b w):=by
 have a : Kept [b] w w:=Kept.refl _ w;have ak:=K.bb.lt;have aj : B ≤ w.heap.size:=by have:=K.lob; have:=K.bb.lt; omega
 refine Bw Tryz.func24 Tryz.ntmps24 fun _ f=>?_;refine C.sk fun _ k=>?_;refine L.box f Aa (by decide) rfl rfl fun _ w1 g0 N f=>?_;obtain ⟨h,q,r,a8,ac⟩:=N.al;have a4:=a.lo r;replace a:=a.z q;replace K:=K.k0 q;clear N q;refine L.alloc f Aa (by decide) (z:=Q9) (fun _=>by kernel_rfl) rfl fun _ w2 g1 N f=>?_;obtain ⟨l,q,t,a9,ae⟩:=N.al;have n:=a.lo t;have u : g0 ≠ g1:=by have:=h.lt; omega
 replace a:=a.z q;replace K:=K.k0 q;replace h:=h.z q;clear N q;refine wn k ?_;refine wp_seq_k fun _ _=>?_;refine wp_seq_k fun _ k=>?_;obtain ⟨gR,rfl⟩ : ∃ g,g = g1:=⟨_,rfl⟩;have j : Blk w2 gR 48 #[.slice none 0 0,.slice none 0 0,.slice none 0 0,.slice none 0 0]:=l;have a5 : w.heap.size ≤ gR:=n;clear l;refine C.region ?_;(iterate 3 refine L.s f fun _ f=>?_);refine L.lo f (K.lk.cl rfl) fun _ f=>?_;refine L.s f fun _ f=>?_;have f:=f.as (i:=23) (v':=.bool true) rfl (by rfl);refine wn k ?_;refine C.cT f rfl ?_;refine C.sk fun _ k=>?_;(iterate 2 refine L.s f fun _ f=>?_);refine L.cl f (Ji f Tryz.call26) (Qd b lp sp SA sc at_ cn s B _ K y) ?_;rintro e w3 ⟨A4,c4,D4,n4,d4,ah,m2,ao,rfl,q,d,m⟩;replace m:=m.lw a.size;refine ⟨_,rfl,fun _ f=>?_⟩;have af:=q.size;replace a:=a.trans q (by intro x o a0; simp at o; subst o; simp);replace j:=j.kept q (by simp; omega);clear q;refine L.storeR f Aa Gh rfl rfl rfl j rfl rfl fun _ w4 f v c=>?_;have ag:=c.size;replace a:=a.trans c (by intro x o a0; simp at o; subst o; (exfalso; omega));replace d:=d.kn c;replace m:=m.mod (Mod.o1 (M:=[]) c j (by omega)) (by decide);replace j:=v;clear c;refine wn k (wp_ret ?_); (try simp only [xt,xb]); refine C.retC f rfl rfl j U48 rfl Gh ?_;exact ⟨_,_,_,_,_,_,_,_,rfl,a,d,m⟩
theorem x3c (b l : Nat) (at_ : Int) (cn cl : Bool) (now : Int) (B : Nat) (w : World) (j : Blk w b 29 (Ic (some ⟨l,0,none⟩) none 0 0)) (a : Blk w l 76 (Um ⟨#[]⟩ at_ cn)) (ax : B ≤ b) (ay : B ≤ l) (hB : B ≤ w.heap.size) : Calls Tryz.prog 9 #[.pointer (some ⟨b,0,none⟩),.int .i64 0,.agg (Wc cl),.int .i64 now,.agg #[.slice none 0 0,.slice none 0 0,.slice none 0 0,.slice none 0 0]] w (x3b B b l cl now w):=by
 have n : Kept [] w w:=Kept.refl [] w;have v:=j;have x:=a;refine Bw Tryz.func9 Tryz.ntmps9 fun _ f=>?_;refine C.sk fun _ k=>?_;refine L.box f Aa (by decide) rfl rfl fun _ w1 g0 N f=>?_;obtain ⟨c,q,a9,ba,bd⟩:=N.al;have a1:=n.lo a9;have ao : b ≠ g0:=by have:=j.lt; omega
 have af : l ≠ g0:=by have:=a.lt; omega
 replace n:=n.z q;replace j:=j.z q;replace a:=a.z q;clear N q;refine L.box f Aa (by decide) rfl rfl fun _ w2 g1 N f=>?_;obtain ⟨m,q,aa,bb,bf⟩:=N.al;have a2:=n.lo aa;have ap : b ≠ g1:=by have:=j.lt; omega
 have ag : l ≠ g1:=by have:=a.lt; omega
 have ac : g0 ≠ g1:=by have:=c.lt; omega
 replace n:=n.z q;replace j:=j.z q;replace a:=a.z q;replace c:=c.z q;clear N q;refine L.alloc f Aa (by decide) (z:=Q9) (fun _=>by kernel_rfl) rfl fun _ w3 g2 N f=>?_;obtain ⟨y,q,ab,bc,bg⟩:=N.al;have a3:=n.lo ab;have aq : b ≠ g2:=by have:=j.lt; omega
 have ah : l ≠ g2:=by have:=a.lt; omega
 have ad : g0 ≠ g2:=by have:=c.lt; omega
 have ae : g1 ≠ g2:=by have:=m.lt; omega
 replace n:=n.z q;replace j:=j.z q;replace a:=a.z q;replace c:=c.z q;replace m:=m.z q;clear N q;refine pe f k fun _ f=>?_;refine wp_seq_k fun _ k=>?_;obtain ⟨gp,rfl⟩ : ∃ g,g = g0:=⟨_,rfl⟩;have t : Blk w3 gp 39 (Wc cl):=c;have b7 : w.heap.size ≤ gp:=a1;clear c;obtain ⟨gx,rfl⟩ : ∃ g,g = g1:=⟨_,rfl⟩;have u : Blk w3 gx 56 #[.slice none 0 0,.slice none 0 0,.slice none 0 0,.slice none 0 0]:=m;have b9 : w.heap.size ≤ gx:=a2;clear m;obtain ⟨gR,rfl⟩ : ∃ g,g = g2:=⟨_,rfl⟩;have r : Blk w3 gR 48 #[.slice none 0 0,.slice none 0 0,.slice none 0 0,.slice none 0 0]:=y;have b8 : w.heap.size ≤ gR:=a3;clear y;have p : Mod [29,76,111,185,143,160] [] B w w3:=.o0 n;have b6 : b ≠ l ∧ b < w.heap.size ∧ l < w.heap.size ∧ gp ≠ gx ∧ gp ≠ gR ∧ gx ≠ gR:=⟨Qc v x (by decide),v.lt,x.lt,by omega,by omega,by omega⟩;clear n;refine C.region ?_;(iterate 2 refine L.s f fun _ f=>?_);refine L.cl f (Bm f Tryz.call23) (P1 b (some ⟨l,0,none⟩) none 0 0 _ j) ?_;rintro e b5 ⟨rfl,rfl⟩;refine ⟨_,rfl,fun _ f=>?_⟩;refine pe f k fun _ f=>?_;refine wp_seq_k fun _ k=>C.sk fun _ k1=>?_;refine L.s f fun _ f=>?_;refine L.va f (E.eqlPo f U25 rfl rfl) fun _ f=>?_;have f:=f.as (i:=26) (v':=.bool false) rfl (by rfl);refine wn k1 ?_;refine C.cF f rfl ?_;refine wp_skip (k _ _ ?_);refine C.sk fun _ k=>?_;(iterate 2 refine L.s f fun _ f=>?_)
 refine L.cl f (Dt f Tryz.call15) (Fw now _) ?_;rintro e b5 ⟨rfl,rfl⟩;refine ⟨_,rfl,fun _ f=>?_⟩;(iterate 2 refine L.s f fun _ f=>?_);refine L.store f Aa Z0 rfl rfl rfl a (by (simp [Value.cells]; done)) fun _ w4 f au d=>?_;have bh:=d.size;replace p:=p.trans ((Mod.o1 (M:=[]) (B:=B) d a (by omega)).mono (by decide) (by simp) (Nat.le_refl _));replace t:=t.kn d;replace u:=u.kn d;replace r:=r.kn d;replace j:=j.kn d;replace a:=au;simp only [Value.cells,List.setIfInBounds_toArray,List.set_cons_zero,List.set_cons_succ,Nat.reduceAdd,Nat.zero_add] at a;clear d;refine wn k ?_;refine wp_seq_k fun _ _=>?_;refine wp_seq_k fun _ k=>?_;replace a : Blk w4 l 76 (Um ⟨#[]⟩ (Bf now) cn):=a;refine C.region ?_;(iterate 3 refine L.s f fun _ f=>?_);have f:=f.as (i:=35) (v':=.bool true) rfl (by rfl);refine wn k ?_;refine C.cT f rfl ?_;refine C.sk fun _ k=>?_;(iterate 5 refine L.s f fun _ f=>?_);refine L.cl f (B5 Tryz.call24 (Yh f rfl rfl rfl rfl rfl)) (Wf b l (Bf now) cn cl now B _ j a ax ay (Nat.le_trans hB p.size)) ?_;rintro e w5 ⟨sp,SA,sc,s9,A4,n4,c4,o,rfl,b3,K,az,b2,b1,b0,q,EN,OU⟩;have a8:=Nat.le_trans p.size b1;have a7:=Nat.le_trans p.size b0;replace OU:=OU.lw p.size;replace p:=(p.mono (fun _ h9=>h9) (M':=[s9.im,s9.gm]) (by simp) (Nat.le_refl _)).trans q;refine ⟨_,rfl,fun _ f=>?_⟩;have bi:=q.size
 replace t:=t.mod q (by decide);replace u:=u.mod q (by decide);replace r:=r.mod q (by decide);clear q;refine L.storeR f Aa Gh rfl rfl rfl r rfl rfl fun _ w6 f av h=>?_;have bj:=h.size;replace t:=t.kn h;replace u:=u.kn h;replace p:=p.kN h (by simp; omega);replace K:=K.mod (Mod.o1 (M:=[]) h r (by omega)) (by decide);replace OU:=OU.mod (Mod.o1 (M:=[]) h r (by omega)) (by decide);replace r:=av;clear h;refine pe f k fun _ f=>?_;refine wp_ret ?_; (try simp only [xt,xb]); refine C.retCT f rfl rfl rfl r U48 rfl Gh ?_;exact ⟨sp,SA,sc,s9,A4,n4,c4,o,rfl,b3,K,az,b2,a8,a7,p,EN,OU⟩
end Go.Proofs.YtkdeedhjkjffpaaGreat
namespace Go.Proofs.YtkdeedhjkjffpaaGreat
open Go.RowKit Go.Hub Go.Lib
theorem Zv2 (a : Option Addr) (b c : Nat) : Tryz.prog.built 48 [(0,.slice a b c)] = some #[.slice a b c,(.slice none 0 0),(.slice none 0 0),(.slice none 0 0)]:=by kernel_rfl
theorem Zw2 (a : ByteArray) (b : Option Addr) (f g : Nat) (c : Int) (d : Bool) : Tryz.prog.built 58 [(0,.string a),(1,.slice b f g),(2,.int .i64 c),(3,.bool d)] = some #[.string a,.slice b f g,.int .i64 c,.bool d]:=by kernel_rfl
theorem _root_.Go.Hub.Mod.blw {T : List TypeId} {M : List Nat} {B : Nat} {w w' : World} (h : Mod T M B w w') (b : B ≤ w.heap.size) : Below B w w':=⟨h.os,h.tape,h.output,h.size,fun k a=>h.block k (Nat.lt_of_lt_of_le a b) (.inl a)⟩
def takeA (a : Go.Proofs.YtkdeedhjkjffpaaGreat.SA) (p : Pk) (now : Int) : Go.Proofs.YtkdeedhjkjffpaaGreat.SA × List Pk × Option Ms:=
  if p.kind = 3 ∨ p.kind = 6 then ((gotS a p.kind p.qos p.id).1,(gotS a p.kind p.qos p.id).2.2.map Pa.pk,if p.kind = 3 ∧ (gotS a p.kind p.qos p.id).2.1 = true then some ⟨p.topic,p.pay,p.qos,p.retain⟩ else none)
  else if p.kind = 4 ∨ p.kind = 5 ∨ p.kind = 7 then ((ackS a p.kind p.id now).1,(ackS a p.kind p.id now).2.map Pa.pk,none)
  else if p.kind = 8 then (a,[{ kind:=9,id:=p.id,codes:=p.subs.map G7 }],none)
  else if p.kind = 10 then (a,[(Bq 11 p.id).pk],none)
  else (a,[{ kind:=13 }],none)
def unE (l : FE) (x : ByteArray × Int) : FE:=Sx l x.1
def lsT (l : FE) (p : Pk) : FE:=if p.kind = 8 then p.subs.foldl Q2 l else if p.kind = 10 then p.subs.foldl unE l else l
theorem Qm {l r : FE} {k : Nat} {x : ByteArray × Int} (a : r[k]? = some x) : (r.take (k + 1)).foldl unE l = Sx ((r.take k).foldl unE l) x.1:=by
  rw [List.take_add_one,a,List.foldl_append]; rfl
section
variable {a : Go.Proofs.YtkdeedhjkjffpaaGreat.SA} {p : Pk} {now : Int} {l : FE}
theorem B2 (h : p.kind = 3 ∨ p.kind = 6) : takeA a p now = ((gotS a p.kind p.qos p.id).1,(gotS a p.kind p.qos p.id).2.2.map Pa.pk,if p.kind = 3 ∧ (gotS a p.kind p.qos p.id).2.1 = true then some ⟨p.topic,p.pay,p.qos,p.retain⟩ else none):=if_pos h
theorem B3 (h : p.kind = 4 ∨ p.kind = 5 ∨ p.kind = 7) : takeA a p now = ((ackS a p.kind p.id now).1,(ackS a p.kind p.id now).2.map Pa.pk,none):=by unfold takeA; rw [if_neg (by omega),if_pos h]
theorem Qn (h : p.kind = 8) : takeA a p now = (a,[{ kind:=9,id:=p.id,codes:=p.subs.map G7 }],none):=by unfold takeA; rw [if_neg (by omega),if_neg (by omega),if_pos h]
theorem Ky (h : p.kind = 10) : takeA a p now = (a,[(Bq 11 p.id).pk],none):=by unfold takeA; rw [if_neg (by omega),if_neg (by omega),if_neg (by omega),if_pos h]
theorem Kz (h : p.kind = 12) : takeA a p now = (a,[{ kind:=13 }],none):=by unfold takeA; rw [if_neg (by omega),if_neg (by omega),if_neg (by omega),if_neg (by omega)]
theorem J0 (c : p.kind ≠ 8) (b : p.kind ≠ 10) : lsT l p = l:=by unfold lsT; rw [if_neg c,if_neg b]
theorem y7u (h : p.kind = 8) : lsT l p = p.subs.foldl Q2 l:=if_pos h
theorem y5j (h : p.kind = 10) : lsT l p = p.subs.foldl unE l:=by unfold lsT; rw [if_neg (by omega),if_pos h]
end
theorem y5k {w : World} {g t : Nat} {p : Pk} {ad : Ad} (b : Blk w g t #[.string p.topic,.slice ad.pa p.pay.length ad.pc,.int .i64 p.qos,.bool p.retain]) : Sl w (some ⟨g,0,none⟩) 1 4 ((some (⟨p.topic,p.pay,p.qos,p.retain⟩ : Ms)).toList.flatMap fun m=>mcell ⟨m,ad.pa,ad.pc⟩):=
  ⟨rfl,fun _=>⟨g,0,rfl,b.lt,fun j u a=>by rw [Nat.zero_add]; exact b.cl (by simpa using a)⟩⟩
theorem Bk.setLk {B b c j i : Nat} {w W : World} {f : Option Addr} {at_ a : Int} {l g : Bool} {s : Rs} (h : Bk B w b c j f i at_ l s) (m : Kept [c] w W) (k : Blk W c 76 (Um kk a g)) : Bk B W b c j f i a g s:=by
  have d : Mod [76] [] B w W:=Mod.o1 m h.lk h.lol;exact ⟨h.bb.mod d (by decide),h.ro.mod d (by decide),k,h.se.mod d (by decide),h.cl,h.lob,h.lol,h.loS⟩
structure y7v (B b lp sp : Nat) (SA : Option Addr) (sc : Nat) (cn : Bool) (s : Rs) (p : Pk) (ad : Ad) (now : Int) (w : World) (A : Option Addr) (c : Nat) (Am : Option Addr) (nm : Nat) (s' : Rs) (o : List Oc) (W : World) : Prop where
  K : Bk B W b lp sp SA sc (Bf now) cn s'
  im : s'.im = s.im
  gm : s'.gm = s.gm
  abs : s'.abs = (takeA s.abs p now).1
  ls : s'.ls = lsT s.ls p
  ok : LsOk s'.ls
  len : s'.ls.length ≤ s.ls.length + p.subs.length
  HM : Mod [76,111,185,143,160,79] [s.im,s.gm] B w W
  HL : LFar w W s.LA
  EN : EncL o (takeA s.abs p now).2.1
  OU : OutsAt B w W A c o
  ho : o.length ≤ 10
  sl : Sl W Am nm 4 ((takeA s.abs p now).2.2.toList.flatMap fun m=>mcell ⟨m,ad.pa,ad.pc⟩)
  nm : nm = (takeA s.abs p now).2.2.toList.length
def Wg (B b lp sp : Nat) (SA : Option Addr) (sc : Nat) (cn : Bool) (s : Rs) (p : Pk) (ad : Ad) (now : Int) (w : World) (e : Ending) (w' : World) : Prop:=
  (∃ A c D n dc SA2 m sc2,(p.kind = 1 ∨ p.kind = 14) ∧ e = .returned (.tuple #[.agg #[.slice A 1 c,.slice none 0 0,.slice none 0 0,.slice D n dc],.int .i64 0]) ∧ Below B w w' ∧ Blk w' b 29 (Ic none SA2 m sc2) ∧ OutsAt B w w' A c [Dj])
  ∨ (p.kind ≠ 1 ∧ p.kind ≠ 14) ∧ ∃ A n c Am nm cm D1 n1 c1 D2 n2 c2 s' o,e = .returned (.tuple #[.agg #[.slice A n c,.slice Am nm cm,.slice D1 n1 c1,.slice D2 n2 c2],.int .i64 0]) ∧ n = (o : List Oc).length ∧ y7v B b lp sp SA sc cn s p ad now w A c Am nm s' o w'
theorem Fp {B b t y x : Nat} {k A f i j : Option Addr} {r : Bool} {s a : Rs} {p : Pk} {ad : Ad} {now : Int} {w W : World} {c d q u l v n : Nat} {o : List Oc} (hk : p.kind ≠ 1 ∧ p.kind ≠ 14) (K : Bk B W b t y k x (Bf now) r a) (im : a.im = s.im) (gm : a.gm = s.gm) (g : a.abs = (takeA s.abs p now).1) (ls : a.ls = lsT s.ls p) (ok : LsOk a.ls) (h : a.ls.length ≤ s.ls.length + p.subs.length)
    (HM : Mod [76,111,185,143,160,79] [s.im,s.gm] B w W) (HL : LFar w W s.LA) (z : EncL o (takeA s.abs p now).2.1) (OU : OutsAt B w W A c o) (ho : o.length ≤ 10) (sl : Sl W f d 4 ((takeA s.abs p now).2.2.toList.flatMap fun m=>mcell ⟨m,ad.pa,ad.pc⟩)) (hn : d = (takeA s.abs p now).2.2.toList.length) :
    Wg B b t y k x r s p ad now w (.returned (.tuple #[.agg #[.slice A o.length c,.slice f d q,.slice i u l,.slice j v n],.int .i64 0])) W:=
  .inr ⟨hk,A,_,c,f,d,q,i,u,l,j,v,n,a,o,rfl,rfl,⟨K,im,gm,g,ls,ok,h,HM,HL,z,OU,ho,sl,hn⟩⟩
theorem x8b (b lp sp : Nat) (SA : Option Addr) (sc : Nat) (at_ : Int) (cn : Bool) (s : Rs) (B : Nat) (p : Pk) (ad : Ad) (now : Int) (w : World) (K : Bk B w b lp sp SA sc at_ cn s) (SU : Sl w ad.ua p.subs.length 2 (p.subs.flatMap scp)) (d7 : ∀ b,ad.ua.map (·.block) = some b → Typ w b [5,79,3]) (cq : ∀ b,ad.ua.map (·.block) = some b → s.LA.map (·.block) ≠ some b) (hP : ∀ x ∈ p.subs,0 ≤ x.2 ∧ x.2 ≤ 2 ∧ x.1.size ≤ 100000) (f4 : p.kind = 8 → 0 < p.subs.length) (f5 : p.subs.length ≤ 100) (d8 : p.kind = 8 ∨ p.kind = 10 → 1 ≤ p.id ∧ p.id ≤ 65535) (ar : LsOk s.ls) (f1 : s.ls.length ≤ 900000) (hB : B ≤ w.heap.size) (dx : (Lit.int .i64 p.id).wf = true) (dq : s.got.length < maxLen) (f7 : p.kind = 3 → He p.topic = true) (gr : p.topic.size ≤ 1000000) (gq : p.kind = 1 ∨ p.kind = 3 ∨ p.kind = 4 ∨ p.kind = 5 ∨ p.kind = 6 ∨ p.kind = 7 ∨ p.kind = 8 ∨ p.kind = 10 ∨ p.kind = 12 ∨ p.kind = 14) (ba : ∀ q ∈ (takeA s.abs p now).2.1,PkR q) : Calls Tryz.prog 9 #[.pointer (some ⟨b,0,none⟩),.int .i64 0,.agg (p.cells ad),.int .i64 now,.agg #[.slice none 0 0,.slice none 0 0,.slice none 0 0,.slice none 0 0]] w (Wg B b lp sp SA sc cn s p ad now w):=by
 have HK : Kept [] w w:=Kept.refl [] w;have ck:=K;have dp:=K.lol;refine Bw Tryz.func9 Tryz.ntmps9 fun _ d=>?_;refine C.sk fun _ k1=>?_;refine L.box d Aa (by decide) rfl rfl fun _ w1 g0 N d=>?_;obtain ⟨b8,h,dy,fs,fy⟩:=N.al;have di:=HK.lo dy;replace HK:=HK.z h;clear N h;refine L.box d Aa (by decide) rfl rfl fun _ w2 g1 N d=>?_;obtain ⟨bw,h,dz,ft,fz⟩:=N.al;have dj:=HK.lo dz;have e4 : g0 ≠ g1:=by have:=b8.lt; omega
 replace HK:=HK.z h;replace b8:=b8.z h;clear N h;refine L.alloc d Aa (by decide) (z:=Q9) (fun _=>by kernel_rfl) rfl fun _ w3 g2 N d=>?_;obtain ⟨db,h,e0,fu,g3⟩:=N.al;have dk:=HK.lo e0;have e5 : g0 ≠ g2:=by have:=b8.lt; omega
 have e6 : g1 ≠ g2:=by have:=bw.lt; omega
 replace HK:=HK.z h;replace b8:=b8.z h;replace bw:=bw.z h;clear N h;refine pe d k1 fun _ d=>?_;refine wp_seq_k fun _ k1=>?_;obtain ⟨gp,rfl⟩ : ∃ g,g = g0:=⟨_,rfl⟩;have BP : Blk w3 gp 39 (p.cells ad):=b8;have fo : w.heap.size ≤ gp:=di;clear b8;obtain ⟨gx,rfl⟩ : ∃ g,g = g1:=⟨_,rfl⟩;have u : Blk w3 gx 56 #[.slice none 0 0,.slice none 0 0,.slice none 0 0,.slice none 0 0]:=bw;have fq : w.heap.size ≤ gx:=dj;clear bw;obtain ⟨gR,rfl⟩ : ∃ g,g = g2:=⟨_,rfl⟩;have n : Blk w3 gR 48 #[.slice none 0 0,.slice none 0 0,.slice none 0 0,.slice none 0 0]:=db;have fp : w.heap.size ≤ gR:=dk;clear db;have l : Mod [76,111,185,143,160,79] [s.im,s.gm] B w w3:=.o0 HK;have j : LFar w w3 s.LA:=LFar.mod (fun _ _ _ _=>rfl) (Mod.o0 (T:=[]) (M:=[]) (B:=B) HK) (by simp) (Nat.le_refl _);replace K:=K.k0 HK;have fm : b ≠ lp ∧ b < w.heap.size ∧ lp < w.heap.size ∧ gp ≠ gx ∧ gp ≠ gR ∧ gx ≠ gR:=⟨Qc ck.bb ck.lk (by decide),ck.bb.lt,ck.lk.lt,by omega,by omega,by omega⟩;clear HK;refine C.region ?_;(iterate 2 refine L.s d fun _ d=>?_);refine L.cl d (Bm d Tryz.call23) (P1 b (some ⟨lp,0,none⟩) SA 1 sc _ K.bb) ?_;rintro e fb ⟨rfl,rfl⟩;refine ⟨_,rfl,fun _ d=>?_⟩;refine pe d k1 fun _ d=>?_;refine wp_seq_k fun _ k1=>C.sk fun _ k2=>?_;refine L.s d fun _ d=>?_;refine L.va d (E.eqlPo d U25 rfl rfl) fun _ d=>?_
 have d:=d.as (i:=26) (v':=.bool false) rfl (by rfl);refine wn k2 ?_;refine C.cF d rfl ?_;refine wp_skip (k1 _ _ ?_);refine wp_seq_k fun _ k1=>?_;have BL:=K.lk;have bz:=K;clear K;have HX:=Kept.refl [lp] w3;refine C.region ?_;(iterate 2 refine L.s d fun _ d=>?_);refine L.cl d (Dt d Tryz.call15) (Fw now _) ?_;rintro e fb ⟨rfl,rfl⟩;refine ⟨_,rfl,fun _ d=>?_⟩;(iterate 2 refine L.s d fun _ d=>?_);refine L.store d Aa Z0 rfl rfl rfl BL (by (simp [Value.cells]; done)) fun _ w4 d ek bi=>?_;have g5:=bi.size;replace j:=j.mod (Mod.o1 (M:=[]) (B:=B) bi BL (by omega)) (by decide) l.size;replace l:=l.trans ((Mod.o1 (M:=[]) (B:=B) bi BL dp).mono (by decide) (by simp) (Nat.le_refl _));replace BP:=BP.kn bi;replace u:=u.kn bi;replace n:=n.kn bi;replace HX:=HX.trans bi (by intro x hx f3; simp at hx; subst hx; simp);replace BL:=ek;simp only [Value.cells,List.setIfInBounds_toArray,List.set_cons_zero,List.set_cons_succ,Nat.reduceAdd,Nat.zero_add] at BL;clear bi;refine wn k1 ?_;refine wp_seq_k fun _ k1=>?_;refine wp_seq_k fun _ k2=>?_;replace BL : Blk w4 lp 76 (Um kk (Bf now) cn):=BL;have K:=bz.setLk HX BL;clear bz HX BL;refine Ib d k2 fun _ d=>?_;refine d.sD 35 rfl (fun h0 d=>?_) (fun h0 d=>?_)
 ·have ey : p.kind = 1:=h0;refine C.cT d rfl ?_;refine C.sk fun _ k2=>?_;refine L.s d fun _ c=>?_;(iterate 4 refine L.s c fun _ c=>?_);refine L.cl c (B5 Tryz.call24 (Yh c rfl rfl rfl rfl rfl)) (Uf b lp sp SA sc (Bf now) cn s B _ K ar.len p ad now) ?_;rintro e w5 ⟨A4,c4,D4,n4,d4,en,m2,f8,rfl,h,bm,OU⟩;replace OU:=OU.lw l.size;have HE : Mod [29,76,111,185,143,160,79] [s.im,s.gm] B w w5:=(l.mono (by decide) (fun _ h9=>h9) (Nat.le_refl _)).trans (.of_blk h K.bb K.lob (by simp));refine ⟨_,rfl,fun _ c=>?_⟩;have ak:=h.size;replace n:=n.kept h (by simp; omega);clear h;refine L.storeR c Aa Gh rfl rfl rfl n rfl rfl fun _ w6 c c1 a8=>?_;have aq:=a8.size;replace HE:=HE.kN a8 (by simp; omega);replace bm:=bm.kn a8;replace OU:=OU.mod (Mod.o1 (M:=[]) a8 n (by omega)) (by decide);replace n:=c1;clear a8;refine pe c k2 fun _ c=>?_;refine wp_ret ?_; (try simp only [xt,xb]); refine C.retCT c rfl rfl rfl n U48 rfl Gh ?_;exact .inl ⟨_,_,_,_,_,_,_,_,.inl ey,rfl,HE.blw hB,bm,OU⟩
 refine C.cF d rfl ?_;refine wp_skip (k1 _ _ ?_);refine C.sk fun _ k1=>?_;(iterate 4 refine L.s d fun _ d=>?_);refine L.lo d (K.lk.cl rfl) fun _ d=>?_;refine L.cl d (Bm d Tryz.call25) (Gy b lp sp SA sc (Bf now) cn s B _ K) ?_;rintro e hb ⟨rfl,rfl⟩;refine ⟨_,rfl,fun _ d=>?_⟩;refine pe d k1 fun _ d=>?_;refine wp_seq_k fun _ k1=>C.sk fun _ k2=>?_;(iterate 3 refine L.s d fun _ d=>?_);refine L.lo d (K.lk.cl rfl) fun _ d=>?_;refine L.s d fun _ d=>?_;have d:=d.as (i:=52) (v':=.bool false) rfl (by rfl);(iterate 2 refine L.s d fun _ d=>?_);refine L.va d (E.eqlPo d U93 rfl rfl) (hw:=d.y) fun _ d=>?_;have d:=d.as (i:=55) (v':=.bool false) rfl (by rfl);refine pe d k2 fun _ d=>?_;refine C.cF d rfl ?_;refine wp_skip (k1 _ _ ?_);refine wp_seq_k fun _ k1=>?_;refine pr d fun _ d=>?_;refine wp_block ?_;refine pr d fun _ d=>?_;refine d.sD 62 rfl (fun h1 d=>?_) (fun h1 d=>?_)
 ·have cr : p.kind = 3:=h1;have a7 : p.kind = 3 ∨ p.kind = 6:=.inl cr;refine C.cT d rfl ?_;refine wp_seq_k fun _ k2=>C.sk fun _ k3=>?_;refine L.s d fun _ c=>?_;refine L.s c fun _ c=>?_;refine L.cl c (Dt c Tryz.call27) (So p.topic _ (x1t _) (by omega)) ?_;rintro e w5 ⟨h,rfl⟩;refine ⟨_,rfl,fun _ c=>?_⟩;have ak:=h.size;replace j:=j.mod (Mod.o0 (T:=[]) (M:=[]) (B:=B) h) (by simp) l.size;replace l:=l.trans (.o0 h);replace BP:=BP.z h;replace u:=u.z h;replace n:=n.z h;replace K:=K.k0 h;clear h;have c:=c.as (i:=66) (v':=.bool true) rfl (by rw [f7 cr]);refine pe c k3 fun _ c=>?_;refine C.cF c rfl ?_;refine wp_skip (k2 _ _ ?_);refine C.sk fun _ k2=>?_;(iterate 2 refine L.s c fun _ c=>?_);refine L.cl c (Bm c Tryz.call28) (Vn B sp s p.kind p.qos p.id (p.cells ad) rfl rfl rfl _ K.se (Nat.le_trans hB l.size) dx dq) ?_;rintro e w6 ⟨s9,A7,c7,aj,rfl,av,ac,a3,a1,h,PK,cs⟩;have r:=K.next h (by decide) av a1.cl
  replace j:=j.mod h (by decide) l.size;replace l:=l.trans (h.mono (by decide) (fun _ h9=>h9) (Nat.le_refl _));have b6 : ∀ x ∈ aj.map (·.p),H3 x:=fun x hx=>ba x.pk (by rw [B2 a7]; rw [a3] at hx; exact List.mem_map_of_mem hx);refine ⟨_,rfl,fun _ c=>?_⟩;have aq:=h.size;replace BP:=BP.mod h (by decide);replace u:=u.mod h (by decide);replace n:=n.mod h (by decide);clear h;refine pe c k2 fun _ c=>?_;refine C.sk fun _ k2=>?_;(iterate 2 refine L.s c fun _ c=>?_);refine L.cl c (Bm c Tryz.call29) (Gi B aj A7 c7 _ _ (Nat.le_trans hB l.size) PK b6 (by omega)) ?_;rintro e w7 ⟨AV,cV,o,rfl,h,EN,OV⟩;replace OV:=OV.lw l.size;rw [a3] at EN;have ho : o.length ≤ 10:=by have h1:=congrArg List.length EN.enc; have h2:=congrArg List.length a3; simp at h1 h2; omega
  refine ⟨_,rfl,fun _ c=>?_⟩;have ay:=h.size;replace BP:=BP.z h;replace u:=u.z h;replace n:=n.z h;replace j:=j.mod (Mod.o0 (T:=[]) (M:=[]) (B:=B) h) (by simp) l.size;replace l:=l.trans (.o0 h);replace r:=r.k0 h;replace PK:=PK.k0 h;clear h;refine L.bd c (Zv2 _ _ _) fun _ c=>?_;refine L.alloc c Aa (by decide) (z:=Q9) (fun _=>by kernel_rfl) rfl fun _ w8 g7 N c=>?_;obtain ⟨b2,h,e2,e3,cy⟩:=N.al;have ca : gp ≠ g7:=by have:=BP.lt; omega
  have cb : gx ≠ g7:=by have:=u.lt; omega
  have c9 : gR ≠ g7:=by have:=n.lt; omega
  replace BP:=BP.z h;replace u:=u.z h;replace n:=n.z h;replace j:=j.mod (Mod.o0 (T:=[]) (M:=[]) (B:=B) h) (by simp) l.size;replace l:=l.trans (.o0 h);replace r:=r.k0 h;replace OV:=OV.k0 h;clear N h;refine L.storeR c Aa Gh rfl rfl rfl b2 rfl rfl fun _ w9 c d5 aa=>?_;have cz:=aa.size;replace BP:=BP.kn aa;replace u:=u.kn aa;replace n:=n.kn aa;replace j:=j.mod (Mod.o1 (M:=[]) (B:=B) aa b2 (by omega)) (by decide) l.size;replace l:=l.kN aa (by simp; omega);replace r:=r.mod (Mod.o1 (M:=[]) aa b2 (by omega)) (by decide);replace OV:=OV.mod (Mod.o1 (M:=[]) aa b2 (by omega)) (by decide);replace b2:=d5;clear aa;refine wn k2 ?_;refine wp_seq_k fun _ k2=>?_;refine wp_seq_k fun _ k3=>?_;obtain ⟨gE,rfl⟩ : ∃ g,g = g7:=⟨_,rfl⟩;have BE : Blk w9 gE 48 #[.slice AV o.length cV,.slice none 0 0,.slice none 0 0,.slice none 0 0]:=b2;clear b2;refine Ib c k3 fun _ c=>?_;refine c.split 78 rfl (fun h2 c=>?_) (fun h2 c=>?_)
  ·have bf:=h2;refine C.cT c rfl ?_;refine C.region ?_;refine L.s c fun _ m=>?_;(iterate 7 refine L.s m fun _ m=>?_);refine L.bd m (Zw2 _ _ _ _ _ _) fun _ m=>?_;refine L.buildSlice m Aa (by decide) (pL m rfl) U45 Zt rfl rfl (Zu _ _ _ _) fun _ ef g9 N m=>?_;obtain ⟨bx,h,fr,fw,cd⟩:=N.al;have ec : gp ≠ g9:=by have:=BP.lt; omega
   have ee : gx ≠ g9:=by have:=u.lt; omega
   have ea : gR ≠ g9:=by have:=n.lt; omega
   have e8 : gE ≠ g9:=by have:=BE.lt; omega
   replace BP:=BP.z h;replace u:=u.z h;replace n:=n.z h;replace j:=j.mod (Mod.o0 (T:=[]) (M:=[]) (B:=B) h) (by simp) l.size;replace l:=l.trans (.o0 h);replace r:=r.k0 h;replace OV:=OV.k0 h;replace BE:=BE.z h;clear N h;refine L.s m fun _ m=>?_;refine L.store m Aa Zv rfl rfl rfl BE (by (simp [Value.cells]; done)) fun _ gy m df ag=>?_;have f9:=ag.size;replace BP:=BP.kn ag;replace u:=u.kn ag;replace n:=n.kn ag;replace j:=j.mod (Mod.o1 (M:=[]) (B:=B) ag BE (by omega)) (by decide) l.size;replace l:=l.kN ag (by simp; omega);replace r:=r.mod (Mod.o1 (M:=[]) ag BE (by omega)) (by decide);replace OV:=OV.mod (Mod.o1 (M:=[]) ag BE (by omega)) (by decide);replace bx:=bx.kn ag;replace BE:=df;simp only [Value.cells,List.setIfInBounds_toArray,List.set_cons_zero,List.set_cons_succ,Nat.reduceAdd,Nat.zero_add] at BE;clear ag;refine wn k2 (C.sk fun _ k3=>?_);refine L.s m fun _ m=>?_;refine L.storeR m Aa Gh rfl rfl rfl n rfl rfl fun _ gz m dg ah=>?_;have fa:=ah.size;replace BP:=BP.kn ah;replace u:=u.kn ah;replace j:=j.mod (Mod.o1 (M:=[]) (B:=B) ah n (by omega)) (by decide) l.size;replace l:=l.kN ah (by simp; omega);replace r:=r.mod (Mod.o1 (M:=[]) ah n (by omega)) (by decide)
   replace OV:=OV.mod (Mod.o1 (M:=[]) ah n (by omega)) (by decide);replace bx:=bx.kn ah;replace BE:=BE.kn ah;replace n:=dg;clear ah;refine pe m k3 fun _ m=>?_;refine wp_ret ?_; (try simp only [xt,xb]); refine C.retCT m rfl rfl rfl n U48 rfl Gh ?_;exact Fp ⟨by omega,by omega⟩ r a1.im a1.gm (by rw [B2 a7]; exact ac) (by rw [J0 (by omega) (by omega)]; exact a1.ls) (by rw [a1.ls]; exact ar) (by rw [a1.ls]; omega) l j (by rw [B2 a7]; exact EN) OV ho (by rw [B2 a7]; simp only; rw [if_pos ⟨cr,bf⟩]; exact y5k (p:=p) (ad:=ad) bx) (by rw [B2 a7]; simp only; rw [if_pos ⟨cr,bf⟩]; rfl)
  have bf : ¬ (gotS s.abs p.kind p.qos p.id).2.1 = true:=by simpa using h2
  refine C.cF c rfl ?_;refine wp_skip (k2 _ _ ?_);refine C.sk fun _ k2=>?_;refine L.s c fun _ c=>?_;refine L.storeR c Aa Gh rfl rfl rfl n rfl rfl fun _ ef c c0 a4=>?_;have cd:=a4.size;replace BP:=BP.kn a4;replace u:=u.kn a4;replace j:=j.mod (Mod.o1 (M:=[]) (B:=B) a4 n (by omega)) (by decide) l.size;replace l:=l.kN a4 (by simp; omega);replace r:=r.mod (Mod.o1 (M:=[]) a4 n (by omega)) (by decide);replace OV:=OV.mod (Mod.o1 (M:=[]) a4 n (by omega)) (by decide);replace BE:=BE.kn a4;replace n:=c0;clear a4;refine pe c k2 fun _ c=>?_;refine wp_ret ?_; (try simp only [xt,xb]); refine C.retCT c rfl rfl rfl n U48 rfl Gh ?_;exact Fp ⟨by omega,by omega⟩ r a1.im a1.gm (by rw [B2 a7]; exact ac) (by rw [J0 (by omega) (by omega)]; exact a1.ls) (by rw [a1.ls]; exact ar) (by rw [a1.ls]; omega) l j (by rw [B2 a7]; exact EN) OV ho (by rw [B2 a7]; simp only; rw [if_neg (fun h9=>bf h9.2)]; exact Sl.nil _ _ _) (by rw [B2 a7]; simp only; rw [if_neg (fun h9=>bf h9.2)]; rfl)
 refine C.cF d rfl ?_;refine pr d fun _ d=>?_;refine d.sD 91 rfl (fun h3 d=>?_) (fun h3 d=>?_)
 ·have ez : p.kind = 6:=h3;have a7 : p.kind = 3 ∨ p.kind = 6:=.inr ez;refine C.cT d rfl ?_;refine C.sk fun _ k2=>?_;refine L.s d fun _ c=>?_;refine L.s c fun _ c=>?_;refine L.cl c (Bm c Tryz.call28) (Vn B sp s p.kind p.qos p.id (p.cells ad) rfl rfl rfl _ K.se (Nat.le_trans hB l.size) dx dq) ?_;rintro e w5 ⟨s9,A7,c7,aj,rfl,av,ac,a3,a1,h,PK,cs⟩;have r:=K.next h (by decide) av a1.cl
  replace j:=j.mod h (by decide) l.size;replace l:=l.trans (h.mono (by decide) (fun _ h9=>h9) (Nat.le_refl _));have b6 : ∀ x ∈ aj.map (·.p),H3 x:=fun x hx=>ba x.pk (by rw [B2 a7]; rw [a3] at hx; exact List.mem_map_of_mem hx);refine ⟨_,rfl,fun _ c=>?_⟩;have ak:=h.size;replace BP:=BP.mod h (by decide);replace u:=u.mod h (by decide);replace n:=n.mod h (by decide);clear h;refine pe c k2 fun _ c=>?_;refine C.sk fun _ k2=>?_;(iterate 2 refine L.s c fun _ c=>?_);refine L.cl c (Bm c Tryz.call29) (Gi B aj A7 c7 _ _ (Nat.le_trans hB l.size) PK b6 (by omega)) ?_;rintro e w6 ⟨AV,cV,o,rfl,h,EN,OV⟩;replace OV:=OV.lw l.size;rw [a3] at EN;have ho : o.length ≤ 10:=by have h1:=congrArg List.length EN.enc; have h2:=congrArg List.length a3; simp at h1 h2; omega
  refine ⟨_,rfl,fun _ c=>?_⟩;have aq:=h.size;replace BP:=BP.z h;replace u:=u.z h;replace n:=n.z h;replace j:=j.mod (Mod.o0 (T:=[]) (M:=[]) (B:=B) h) (by simp) l.size;replace l:=l.trans (.o0 h);replace r:=r.k0 h;replace PK:=PK.k0 h;clear h;refine L.bd c (Zv2 _ _ _) fun _ c=>?_;refine L.storeR c Aa Gh rfl rfl rfl n rfl rfl fun _ w7 c b4 t=>?_;have ay:=t.size;replace BP:=BP.kn t;replace u:=u.kn t;replace j:=j.mod (Mod.o1 (M:=[]) (B:=B) t n (by omega)) (by decide) l.size;replace l:=l.kN t (by simp; omega);replace r:=r.mod (Mod.o1 (M:=[]) t n (by omega)) (by decide);replace OV:=OV.mod (Mod.o1 (M:=[]) t n (by omega)) (by decide);replace n:=b4;clear t;refine pe c k2 fun _ c=>?_;refine wp_ret ?_; (try simp only [xt,xb]); refine C.retCT c rfl rfl rfl n U48 rfl Gh ?_;exact Fp ⟨by omega,by omega⟩ r a1.im a1.gm (by rw [B2 a7]; exact ac) (by rw [J0 (by omega) (by omega)]; exact a1.ls) (by rw [a1.ls]; exact ar) (by rw [a1.ls]; omega) l j (by rw [B2 a7]; exact EN) OV ho (by rw [B2 a7]; simp only; rw [if_neg (fun h9=>by omega)]; exact Sl.nil _ _ _) (by rw [B2 a7]; simp only; rw [if_neg (fun h9=>by omega)]; rfl)
 refine C.cF d rfl ?_;refine wp_seq_k fun _ k2=>?_;refine pr d fun _ d=>?_;refine d.sD 103 rfl (fun h4 d=>?_) (fun h4 d=>?_)
 ·have ae : p.kind = 4 ∨ p.kind = 5 ∨ p.kind = 7:=by omega
  refine C.cT d rfl ?_;refine wp_skip (k2 _ _ ?_);have c:=d.pk [0,1,3,7,9,10,11,12,13,61,103];refine C.cT c rfl ?_;refine C.sk fun _ k3=>?_;(iterate 4 refine L.s c fun _ c=>?_);refine L.cl c (Ji c Tryz.call30) (Pu B sp s p.kind p.id now (p.cells ad) rfl rfl _ K.se (Nat.le_trans hB l.size)) ?_;rintro e w5 ⟨s9,A7,c7,aj,rfl,av,bc,a1,h,PK,cs⟩;have r:=K.next h (by decide) av a1.cl
  replace j:=j.mod h (by decide) l.size;replace l:=l.trans (h.mono (by decide) (fun _ h9=>h9) (Nat.le_refl _));obtain ⟨ac,a3⟩:=Prod.mk.inj bc;have b6 : ∀ x ∈ aj.map (·.p),H3 x:=fun x hx=>ba x.pk (by rw [B3 ae]; rw [a3] at hx; exact List.mem_map_of_mem hx);refine ⟨_,rfl,fun _ c=>?_⟩;have ak:=h.size;replace BP:=BP.mod h (by decide);replace u:=u.mod h (by decide);replace n:=n.mod h (by decide);clear h;refine L.cl c (Bm c Tryz.call29) (Gi B aj A7 c7 _ _ (Nat.le_trans hB l.size) PK b6 (by omega)) ?_;rintro e w6 ⟨AV,cV,o,rfl,h,EN,OV⟩;replace OV:=OV.lw l.size;rw [a3] at EN;have ho : o.length ≤ 10:=by have h1:=congrArg List.length EN.enc; have h2:=congrArg List.length a3; simp at h1 h2; omega
  refine ⟨_,rfl,fun _ c=>?_⟩;have aq:=h.size;replace BP:=BP.z h;replace u:=u.z h;replace n:=n.z h;replace j:=j.mod (Mod.o0 (T:=[]) (M:=[]) (B:=B) h) (by simp) l.size;replace l:=l.trans (.o0 h);replace r:=r.k0 h;replace PK:=PK.k0 h;clear h;refine L.bd c (Zv2 _ _ _) fun _ c=>?_;refine L.storeR c Aa Gh rfl rfl rfl n rfl rfl fun _ w7 c b4 t=>?_;have ay:=t.size;replace BP:=BP.kn t;replace u:=u.kn t;replace j:=j.mod (Mod.o1 (M:=[]) (B:=B) t n (by omega)) (by decide) l.size;replace l:=l.kN t (by simp; omega);replace r:=r.mod (Mod.o1 (M:=[]) t n (by omega)) (by decide);replace OV:=OV.mod (Mod.o1 (M:=[]) t n (by omega)) (by decide);replace n:=b4;clear t;refine pe c k3 fun _ c=>?_;refine wp_ret ?_; (try simp only [xt,xb]); refine C.retCT c rfl rfl rfl n U48 rfl Gh ?_;exact Fp ⟨by omega,by omega⟩ r a1.im a1.gm (by rw [B3 ae]; exact ac) (by rw [J0 (by omega) (by omega)]; exact a1.ls) (by rw [a1.ls]; exact ar) (by rw [a1.ls]; omega) l j (by rw [B3 ae]; exact EN) OV ho (by rw [B3 ae]; exact Sl.nil _ _ _) (by rw [B3 ae]; rfl)
 refine C.cF d rfl ?_;refine pr d fun _ d=>?_;refine d.sD 103 rfl (fun h5 d=>?_) (fun h5 d=>?_)
 ·have ae : p.kind = 4 ∨ p.kind = 5 ∨ p.kind = 7:=by omega
  refine C.cT d rfl ?_;refine wp_skip (k2 _ _ ?_);have c:=d.pk [0,1,3,7,9,10,11,12,13,61,103];refine C.cT c rfl ?_;refine C.sk fun _ k3=>?_;(iterate 4 refine L.s c fun _ c=>?_);refine L.cl c (Ji c Tryz.call30) (Pu B sp s p.kind p.id now (p.cells ad) rfl rfl _ K.se (Nat.le_trans hB l.size)) ?_;rintro e w5 ⟨s9,A7,c7,aj,rfl,av,bc,a1,h,PK,cs⟩;have r:=K.next h (by decide) av a1.cl
  replace j:=j.mod h (by decide) l.size;replace l:=l.trans (h.mono (by decide) (fun _ h9=>h9) (Nat.le_refl _));obtain ⟨ac,a3⟩:=Prod.mk.inj bc;have b6 : ∀ x ∈ aj.map (·.p),H3 x:=fun x hx=>ba x.pk (by rw [B3 ae]; rw [a3] at hx; exact List.mem_map_of_mem hx);refine ⟨_,rfl,fun _ c=>?_⟩;have ak:=h.size;replace BP:=BP.mod h (by decide);replace u:=u.mod h (by decide);replace n:=n.mod h (by decide);clear h;refine L.cl c (Bm c Tryz.call29) (Gi B aj A7 c7 _ _ (Nat.le_trans hB l.size) PK b6 (by omega)) ?_;rintro e w6 ⟨AV,cV,o,rfl,h,EN,OV⟩;replace OV:=OV.lw l.size;rw [a3] at EN;have ho : o.length ≤ 10:=by have h1:=congrArg List.length EN.enc; have h2:=congrArg List.length a3; simp at h1 h2; omega
  refine ⟨_,rfl,fun _ c=>?_⟩;have aq:=h.size;replace BP:=BP.z h;replace u:=u.z h;replace n:=n.z h;replace j:=j.mod (Mod.o0 (T:=[]) (M:=[]) (B:=B) h) (by simp) l.size;replace l:=l.trans (.o0 h);replace r:=r.k0 h;replace PK:=PK.k0 h;clear h;refine L.bd c (Zv2 _ _ _) fun _ c=>?_;refine L.storeR c Aa Gh rfl rfl rfl n rfl rfl fun _ w7 c b4 t=>?_;have ay:=t.size;replace BP:=BP.kn t;replace u:=u.kn t;replace j:=j.mod (Mod.o1 (M:=[]) (B:=B) t n (by omega)) (by decide) l.size;replace l:=l.kN t (by simp; omega);replace r:=r.mod (Mod.o1 (M:=[]) t n (by omega)) (by decide);replace OV:=OV.mod (Mod.o1 (M:=[]) t n (by omega)) (by decide);replace n:=b4;clear t;refine pe c k3 fun _ c=>?_;refine wp_ret ?_; (try simp only [xt,xb]); refine C.retCT c rfl rfl rfl n U48 rfl Gh ?_;exact Fp ⟨by omega,by omega⟩ r a1.im a1.gm (by rw [B3 ae]; exact ac) (by rw [J0 (by omega) (by omega)]; exact a1.ls) (by rw [a1.ls]; exact ar) (by rw [a1.ls]; omega) l j (by rw [B3 ae]; exact EN) OV ho (by rw [B3 ae]; exact Sl.nil _ _ _) (by rw [B3 ae]; rfl)
 refine C.cF d rfl ?_;refine Ib d k2 fun _ d=>?_;refine d.sD 103 rfl (fun h6 d=>?_) (fun h6 d=>?_)
 ·have ae : p.kind = 4 ∨ p.kind = 5 ∨ p.kind = 7:=by omega
  refine C.cT d rfl ?_;refine C.sk fun _ k2=>?_;refine L.s d fun _ c=>?_;(iterate 3 refine L.s c fun _ c=>?_);refine L.cl c (Ji c Tryz.call30) (Pu B sp s p.kind p.id now (p.cells ad) rfl rfl _ K.se (Nat.le_trans hB l.size)) ?_;rintro e w5 ⟨s9,A7,c7,aj,rfl,av,bc,a1,h,PK,cs⟩;have r:=K.next h (by decide) av a1.cl
  replace j:=j.mod h (by decide) l.size;replace l:=l.trans (h.mono (by decide) (fun _ h9=>h9) (Nat.le_refl _));obtain ⟨ac,a3⟩:=Prod.mk.inj bc;have b6 : ∀ x ∈ aj.map (·.p),H3 x:=fun x hx=>ba x.pk (by rw [B3 ae]; rw [a3] at hx; exact List.mem_map_of_mem hx);refine ⟨_,rfl,fun _ c=>?_⟩;have ak:=h.size;replace BP:=BP.mod h (by decide);replace u:=u.mod h (by decide);replace n:=n.mod h (by decide);clear h;refine L.cl c (Bm c Tryz.call29) (Gi B aj A7 c7 _ _ (Nat.le_trans hB l.size) PK b6 (by omega)) ?_;rintro e w6 ⟨AV,cV,o,rfl,h,EN,OV⟩;replace OV:=OV.lw l.size;rw [a3] at EN;have ho : o.length ≤ 10:=by have h1:=congrArg List.length EN.enc; have h2:=congrArg List.length a3; simp at h1 h2; omega
  refine ⟨_,rfl,fun _ c=>?_⟩;have aq:=h.size;replace BP:=BP.z h;replace u:=u.z h;replace n:=n.z h;replace j:=j.mod (Mod.o0 (T:=[]) (M:=[]) (B:=B) h) (by simp) l.size;replace l:=l.trans (.o0 h);replace r:=r.k0 h;replace PK:=PK.k0 h;clear h;refine L.bd c (Zv2 _ _ _) fun _ c=>?_;refine L.storeR c Aa Gh rfl rfl rfl n rfl rfl fun _ w7 c b4 t=>?_;have ay:=t.size;replace BP:=BP.kn t;replace u:=u.kn t;replace j:=j.mod (Mod.o1 (M:=[]) (B:=B) t n (by omega)) (by decide) l.size;replace l:=l.kN t (by simp; omega);replace r:=r.mod (Mod.o1 (M:=[]) t n (by omega)) (by decide);replace OV:=OV.mod (Mod.o1 (M:=[]) t n (by omega)) (by decide);replace n:=b4;clear t;refine pe c k2 fun _ c=>?_;refine wp_ret ?_; (try simp only [xt,xb]); refine C.retCT c rfl rfl rfl n U48 rfl Gh ?_;exact Fp ⟨by omega,by omega⟩ r a1.im a1.gm (by rw [B3 ae]; exact ac) (by rw [J0 (by omega) (by omega)]; exact a1.ls) (by rw [a1.ls]; exact ar) (by rw [a1.ls]; omega) l j (by rw [B3 ae]; exact EN) OV ho (by rw [B3 ae]; exact Sl.nil _ _ _) (by rw [B3 ae]; rfl)
 refine C.cF d rfl ?_;refine pr d fun _ d=>?_;refine d.sD 114 rfl (fun h7 d=>?_) (fun h7 d=>?_)
 ·have bo : p.kind = 8:=h7;refine C.cT d rfl ?_;refine C.sk fun _ k2=>?_;refine L.s d fun _ c=>?_;(iterate 4 refine L.s c fun _ c=>?_);refine L.va c (E.loadB c Tryz.underlying56 rfl Zo2 rfl (u) rfl) fun _ c=>?_;refine L.cl c (B5 Tryz.call31 (y6h c rfl rfl rfl rfl rfl rfl)) (x7t b lp sp SA sc (Bf now) cn s B p ad now _ K (x0k SU d7 cq l j) (y5f d7 cq l j) cq hP ⟨f4 bo,f5⟩ (d8 (.inl bo)) ar f1 (Nat.le_trans hB l.size)) ?_;rintro e w5 ⟨A4,n4,c4,D4,gv,gb,s9,o,rfl,f6,r,ac,ex,ew,bp,de,dv,h,f2,EN,OV⟩;replace OV:=OV.lw l.size;replace j:=j.step (fun _ h9=>.inl h9) f2 l.size;replace l:=l.trans (h.mono (by decide) (by simp) (Nat.le_refl _));have ho : o.length ≤ 10:=by have h1:=congrArg List.length EN.enc; simp at h1; omega
  refine ⟨_,rfl,fun _ c=>?_⟩;have ak:=h.size;replace BP:=BP.mod h (by decide);replace u:=u.mod h (by decide);replace n:=n.mod h (by decide);clear h;refine L.storeR c Aa Gh rfl rfl rfl n rfl rfl fun _ w6 c c1 a8=>?_;have aq:=a8.size;replace BP:=BP.kn a8;replace u:=u.kn a8;replace j:=j.mod (Mod.o1 (M:=[]) (B:=B) a8 n (by omega)) (by decide) l.size;replace l:=l.kN a8 (by simp; omega);replace r:=r.mod (Mod.o1 (M:=[]) a8 n (by omega)) (by decide);replace OV:=OV.mod (Mod.o1 (M:=[]) a8 n (by omega)) (by decide);replace n:=c1;clear a8;refine pe c k2 fun _ c=>?_;refine wp_ret ?_; (try simp only [xt,xb]); refine C.retCT c rfl rfl rfl n U48 rfl Gh ?_;subst f6;exact Fp ⟨by omega,by omega⟩ r ex ew (by rw [Qn bo]; exact ac) (by rw [y7u bo]; exact bp) de dv l j (by rw [Qn bo]; exact EN) OV ho (by rw [Qn bo]; exact Sl.nil _ _ _) (by rw [Qn bo]; rfl)
 refine C.cF d rfl ?_;refine pr d fun _ d=>?_;refine d.sD 123 rfl (fun h8 d=>?_) (fun h8 d=>?_)
 ·have ax : p.kind = 10:=h8;refine C.cT d rfl ?_;refine wp_seq_k fun _ k2=>?_;have dw:=l.size;refine C.region ?_;refine L.alloc d Aa (by decide) (z:=Q9) (fun _=>by kernel_rfl) rfl fun _ w5 g4 N c=>?_;obtain ⟨dd,h,e1,fv,ak⟩:=N.al;have eb : gp ≠ g4:=by have:=BP.lt; omega
  have ed : gx ≠ g4:=by have:=u.lt; omega
  have e9 : gR ≠ g4:=by have:=n.lt; omega
  replace j:=j.mod (Mod.o0 (T:=[]) (M:=[]) (B:=B) h) (by simp) l.size;replace l:=l.trans (.o0 h);replace BP:=BP.z h;replace u:=u.z h;replace n:=n.z h;replace K:=K.k0 h;clear N h;refine wn k2 ?_;refine wp_seq_k fun _ k2=>?_;refine wp_seq_k fun _ k3=>?_;obtain ⟨gE,rfl⟩ : ∃ g,g = g4:=⟨_,rfl⟩;have BE : Blk w5 gE 48 #[.slice none 0 0,.slice none 0 0,.slice none 0 0,.slice none ([] : List ByteArray).length 0]:=dd;have fn : w.heap.size ≤ gE:=Nat.le_trans dw e1;have fl : gE ≠ gp ∧ gE ≠ gx ∧ gE ≠ gR ∧ gE ≠ lp:=by have:=BP.lt; have:=u.lt; have:=n.lt; omega
  clear dd;have DF : Fresh w w5 9 1 none ([] : List ByteArray).length 0 (([] : List ByteArray).map .string):=Fresh.nil _ _ _ _;refine Ib c k3 fun _ c=>?_;refine wp_block ?_;refine C.loop (fun gk a W=>∃ (k : Nat) (ds : List ByteArray) (D : Option Addr) (dc : Nat) (s' : Rs),k + gk = p.subs.length ∧ ds.length ≤ k ∧ s'.ls = (p.subs.take k).foldl unE s.ls ∧ LsOk s'.ls ∧ s'.ls.length ≤ s.ls.length ∧ s'.abs = s.abs ∧ s'.im = s.im ∧ s'.gm = s.gm ∧ LFar w W s.LA ∧ Mod [76,111,185,143,160,79] [s.im,s.gm] B w W ∧ Bk B W b lp sp SA sc (Bf now) cn s' ∧ Blk W gp 39 (p.cells ad) ∧ Blk W gx 56 #[.slice none 0 0,.slice none 0 0,.slice none 0 0,.slice none 0 0] ∧ Blk W gR 48 #[.slice none 0 0,.slice none 0 0,.slice none 0 0,.slice none 0 0] ∧ Blk W gE 48 #[.slice none 0 0,.slice none 0 0,.slice none 0 0,.slice D ds.length dc] ∧ Fresh w W 9 1 D ds.length dc (ds.map .string) ∧ Fr 174 a [(0,.pointer (some ⟨b,0,none⟩)),(1,.int .i64 0),(7,.pointer (some ⟨gp,0,none⟩)),(10,.pointer (some ⟨gR,0,none⟩)),(13,.pointer (some ⟨sp,0,none⟩)),(19,.pointer (some ⟨gE,0,none⟩)),(20,.int .i64 k)]) (p.subs.length) ?_ ?_
  ·exact ⟨0,[],none,0,s,by omega,Nat.le_refl _,rfl,ar,Nat.le_refl _,rfl,rfl,rfl,j,l,K,BP,u,n,BE,DF,c.sub (sx (sx (sx (sx (sx (sx (sx sn)))))))⟩
  intro c5 _ w6 hI ff bn;obtain ⟨k,ds,D,dc,s',gn,gl,bp,au,c8,ct,cv,cu,j,l,K,BP,u,n,BE,DF,m⟩:=hI
  try clear c
  have gw:=l.size;refine wp_seq_k fun _ k3=>?_;refine pr m fun _ c=>?_;refine c.sD 129 rfl (fun h9 c=>?_) (fun h9 c=>?_)
  ·obtain ⟨x,hx⟩:=Bn p.subs k (by omega);obtain ⟨bU,oU,ev⟩:=SU.addr (by omega);have gt:=List.mem_of_getElem? hx;refine C.cT c rfl ?_;refine wp_skip (k3 _ _ ?_);have m:=c.pk [0,1,7,10,13,19,20,125,126,127,128,129];refine wp_seq_k fun _ k3=>?_;refine wp_block ?_;refine C.sk fun _ k4=>?_;(iterate 5 refine L.s m fun _ m=>?_);refine L.lo m (H9 (x0k SU d7 cq l j) ev hx 0 rfl) fun _ m=>?_;refine pe m k4 fun _ m=>?_;refine C.sk fun _ k4=>?_;(iterate 2 refine L.s m fun _ m=>?_);refine L.cl m (Bm m Tryz.call32) (Mu B sp s' x.1 _ K.se (Nat.le_trans hB l.size) au.len au.asc) ?_;rintro e w7 ⟨s9,rfl,av,az,h,af⟩;have r:=K.next h (by decide) av az.cl
   replace j:=j.mod h (by decide) l.size;replace l:=l.trans (h.mono (by decide) (by simp) (Nat.le_refl _));have dt : s9.ls.length ≤ 1000000:=by rw [af]; exact (au.drop (f:=x.1)).len
   refine ⟨_,rfl,fun _ m=>?_⟩;have ay:=h.size;replace BP:=BP.mod h (by decide);replace u:=u.mod h (by decide);replace n:=n.mod h (by decide);replace BE:=BE.mod h (by decide);replace DF:=DF.mod h (by decide);clear h;refine L.s m fun _ m=>?_;refine m.split 141 rfl (fun et m=>?_) (fun et m=>?_)
   ·refine L.s m fun _ a5=>?_;refine L.s a5 fun _ a5=>?_;refine L.cl a5 (Bm a5 Tryz.call33) (M8 b lp sp SA sc (Bf now) cn s9 B _ r x.1 dt) ?_ (hw:=a5.y);rintro e hc ⟨rfl,rfl⟩;refine ⟨_,rfl,fun _ a5=>?_⟩;refine pe a5 k4 fun _ a5=>?_;refine a5.sB 146 rfl (fun eu a5=>?_) (fun eu a5=>?_)
    ·refine C.cT a5 rfl ?_;refine C.region ?_;refine L.s a5 fun _ a6=>?_;(iterate 2 refine L.s a6 fun _ a6=>?_);refine L.buildSlice a6 Aa (by decide) (pL a6 rfl) U46 Zl rfl rfl (Zm _) fun _ w8 g7 N a6=>?_;obtain ⟨b2,h,e2,e3,cy⟩:=N.al;have ca : gp ≠ g7:=by have:=BP.lt; omega
     have cb : gx ≠ g7:=by have:=u.lt; omega
     have c9 : gR ≠ g7:=by have:=n.lt; omega
     have e7 : gE ≠ g7:=by have:=BE.lt; omega
     replace BP:=BP.z h;replace u:=u.z h;replace n:=n.z h;replace BE:=BE.z h;replace DF:=DF.k0 h;replace j:=j.mod (Mod.o0 (T:=[]) (M:=[]) (B:=B) h) (by simp) l.size;replace l:=l.trans (.o0 h);replace r:=r.k0 h;clear N h;refine L.append a6 Aa (by decide) U46 Zk rfl rfl rfl rfl (DF.own) ((Mv x.1 b2)) (fun v hv=>Dl [x.1] v hv) (by unfold maxLen; omega) (by omega) fun _ w9 Dn dn d0 a6=>?_;have ap : Mod [9] [] B w8 w9:=.of_app d0 DF.own (fun a ha=>Nat.le_trans hB (DF.from a ha)) (by simp);have d2:=x0l DF d0 l.size;replace j:=j.mod ap (by decide) l.size;replace l:=l.app_new d0 DF;have du : ds.length + 1 = (ds ++ [x.1]).length:=by simp
     rw [du] at a6;clear du;have cz:=ap.size;replace BP:=BP.mod ap (by decide);replace u:=u.mod ap (by decide);replace n:=n.mod ap (by decide);replace BE:=BE.mod ap (by decide);replace r:=r.mod ap (by decide);clear ap;refine L.s a6 fun _ a6=>?_;refine L.store a6 Aa Z82 rfl rfl rfl BE (by (simp [Value.cells]; done)) fun _ ef a6 c0 a4=>?_;have cd:=a4.size;replace BP:=BP.kn a4;replace u:=u.kn a4;replace n:=n.kn a4;replace r:=r.mod (Mod.o1 (M:=[]) a4 BE (by omega)) (by decide);replace j:=j.mod (Mod.o1 (M:=[]) (B:=B) a4 BE (by omega)) (by decide) l.size;replace l:=l.kN a4 (by simp; omega);replace d2:=d2.mod (Mod.o1 (M:=[]) (B:=B) a4 BE (by omega)) (by decide);replace BE:=c0;simp only [Value.cells,List.setIfInBounds_toArray,List.set_cons_zero,List.set_cons_succ,Nat.reduceAdd,Nat.zero_add] at BE;clear a4;refine wn k3 ?_;refine C.region ?_;(iterate 3 refine L.s a6 fun _ a6=>?_);refine wpList_nil (bn _ _ (c5 - 1) ?_ ?_)
     ·omega
     exact ⟨k + 1,ds ++ [x.1],Dn,dn,s9,by omega,by simp; omega,by rw [af,Qm hx,← bp],by rw [af]; exact au.drop,by rw [af]; exact Nat.le_trans (List.length_filter_le _ _) c8,az.abs.trans ct,az.im.trans cv,az.gm.trans cu,j,l,r,BP,u,n,BE,d2,a6.sub (sx (sx (sx (sx (sx (sx (sx sn)))))))⟩
    refine C.cF a5 rfl ?_;refine wp_skip (k3 _ _ ?_);refine C.region ?_;(iterate 3 refine L.s a5 fun _ a5=>?_);refine wpList_nil (bn _ _ (c5 - 1) ?_ ?_)
    ·omega
    exact ⟨k + 1,ds,D,dc,s9,by omega,by omega,by rw [af,Qm hx,← bp],by rw [af]; exact au.drop,by rw [af]; exact Nat.le_trans (List.length_filter_le _ _) c8,az.abs.trans ct,az.im.trans cv,az.gm.trans cu,j,l,r,BP,u,n,BE,DF,a5.sub (sx (sx (sx (sx (sx (sx (sx sn)))))))⟩
   refine L.rn m fun _ m=>?_;refine wn k4 ?_;have m:=m.sub (sv 146 (.bool false) (Ft m [0,1,7,10,13,19,20,21,125,126,127,128,129,132,133,134,135,136,137,138,139,140,141]));refine C.cF m rfl ?_;refine wp_skip (k3 _ _ ?_);refine C.region ?_;(iterate 3 refine L.s m fun _ m=>?_);refine wpList_nil (bn _ _ (c5 - 1) ?_ ?_)
   ·omega
   exact ⟨k + 1,ds,D,dc,s9,by omega,by omega,by rw [af,Qm hx,← bp],by rw [af]; exact au.drop,by rw [af]; exact Nat.le_trans (List.length_filter_le _ _) c8,az.abs.trans ct,az.im.trans cv,az.gm.trans cu,j,l,r,BP,u,n,BE,DF,m.sub (sx (sx (sx (sx (sx (sx (sx sn)))))))⟩
  have f0 : p.subs.take k = p.subs:=List.take_of_length_le (by omega);rw [f0] at bp;refine C.cF c rfl ?_;refine wp_exit (k2 _ _ ?_);refine C.sk fun _ k2=>?_;(iterate 3 refine L.s c fun _ c=>?_);refine L.bd c (Z81 _ _) fun _ c=>?_;refine L.cl c (Bm c Tryz.call34) (Kp B (Bq 11 p.id).pk s0 _ (Nat.le_trans hB l.size) ⟨Sl.nil _ _ _,Sl.nil _ _ _,Sl.nil _ _ _,Sl.nil _ _ _,Sl.nil _ _ _⟩ (Gn (k:=11) (.inr rfl) (d8 (.inr ax))).2 (Gn (k:=11) (.inr rfl) (d8 (.inr ax))).1) ?_;rintro e w7 ⟨AV,cV,o,rfl,h,EN,OV⟩;replace OV:=OV.lw l.size;have ho : o.length ≤ 10:=by have h1:=congrArg List.length EN.enc; simp at h1; omega
  refine ⟨_,rfl,fun _ c=>?_⟩;have ay:=h.size;replace j:=j.mod (Mod.o0 (T:=[]) (M:=[]) (B:=B) h) (by simp) l.size;replace l:=l.trans (.o0 h);replace K:=K.k0 h;replace BP:=BP.z h;replace u:=u.z h;replace n:=n.z h;replace BE:=BE.z h;replace DF:=DF.k0 h;clear h;refine L.s c fun _ c=>?_;refine L.store c Aa Za2 rfl rfl rfl BE (by (simp [Value.cells]; done)) fun _ w8 c em b0=>?_;have cy:=b0.size;replace j:=j.mod (Mod.o1 (M:=[]) (B:=B) b0 BE (by omega)) (by decide) l.size;replace l:=l.kN b0 (by simp; omega);replace K:=K.mod (Mod.o1 (M:=[]) b0 BE (by omega)) (by decide);replace BP:=BP.kn b0;replace u:=u.kn b0;replace n:=n.kn b0;replace DF:=DF.mod (Mod.o1 (M:=[]) (B:=B) b0 BE (by omega)) (by decide);replace OV:=OV.mod (Mod.o1 (M:=[]) b0 BE (by omega)) (by decide);replace BE:=em;simp only [Value.cells,List.setIfInBounds_toArray,List.set_cons_zero,List.set_cons_succ,Nat.reduceAdd,Nat.zero_add] at BE;clear b0;refine wn k2 (C.sk fun _ k2=>?_);refine L.s c fun _ c=>?_;refine L.storeR c Aa Gh rfl rfl rfl n rfl rfl fun _ w9 c d5 aa=>?_;have cz:=aa.size;replace j:=j.mod (Mod.o1 (M:=[]) (B:=B) aa n (by omega)) (by decide) l.size;replace l:=l.kN aa (by simp; omega);replace K:=K.mod (Mod.o1 (M:=[]) aa n (by omega)) (by decide)
  replace BP:=BP.kn aa;replace u:=u.kn aa;replace DF:=DF.mod (Mod.o1 (M:=[]) (B:=B) aa n (by omega)) (by decide);replace OV:=OV.mod (Mod.o1 (M:=[]) aa n (by omega)) (by decide);replace BE:=BE.kn aa;replace n:=d5;clear aa;refine pe c k2 fun _ c=>?_;refine wp_ret ?_; (try simp only [xt,xb]); refine C.retCT c rfl rfl rfl n U48 rfl Gh ?_;exact Fp ⟨by omega,by omega⟩ K cv cu (by rw [Ky ax]; exact ct) (by rw [y5j ax]; exact bp) au (by omega) l j (by rw [Ky ax]; exact EN) OV ho (by rw [Ky ax]; exact Sl.nil _ _ _) (by rw [Ky ax]; rfl)
 refine C.cF d rfl ?_;refine pr d fun _ d=>?_;refine d.sD 160 rfl (fun dl d=>?_) (fun dl d=>?_)
 ·have br : p.kind = 12:=dl;refine C.cT d rfl ?_;refine C.sk fun _ k2=>?_;refine L.s d fun _ c=>?_;refine L.bd c (Zf _) fun _ c=>?_;refine L.cl c (Bm c Tryz.call34) (Kp B { kind:=13 } s0 _ (Nat.le_trans hB l.size) ⟨Sl.nil _ _ _,Sl.nil _ _ _,Sl.nil _ _ _,Sl.nil _ _ _,Sl.nil _ _ _⟩ (H4).2 (H4).1) ?_;rintro e w5 ⟨AV,cV,o,rfl,h,EN,OV⟩;replace OV:=OV.lw l.size;have ho : o.length ≤ 10:=by have h1:=congrArg List.length EN.enc; simp at h1; omega
  refine ⟨_,rfl,fun _ c=>?_⟩;have ak:=h.size;replace j:=j.mod (Mod.o0 (T:=[]) (M:=[]) (B:=B) h) (by simp) l.size;replace l:=l.trans (.o0 h);replace BP:=BP.z h;replace u:=u.z h;replace n:=n.z h;replace K:=K.k0 h;clear h;refine L.bd c (Zv2 _ _ _) fun _ c=>?_;refine L.storeR c Aa Gh rfl rfl rfl n rfl rfl fun _ w6 c c1 a8=>?_;have aq:=a8.size;replace j:=j.mod (Mod.o1 (M:=[]) (B:=B) a8 n (by omega)) (by decide) l.size;replace l:=l.kN a8 (by simp; omega);replace BP:=BP.kn a8;replace u:=u.kn a8;replace K:=K.mod (Mod.o1 (M:=[]) a8 n (by omega)) (by decide);replace OV:=OV.mod (Mod.o1 (M:=[]) a8 n (by omega)) (by decide);replace n:=c1;clear a8;refine pe c k2 fun _ c=>?_;refine wp_ret ?_; (try simp only [xt,xb]); refine C.retCT c rfl rfl rfl n U48 rfl Gh ?_;exact Fp ⟨by omega,by omega⟩ K rfl rfl (by rw [Kz br]) (by rw [J0 (by omega) (by omega)]) ar (by omega) l j (by rw [Kz br]; exact EN) OV ho (by rw [Kz br]; exact Sl.nil _ _ _) (by rw [Kz br]; rfl)
 refine C.cF d rfl ?_;refine pr d fun _ d=>?_;refine d.sD 166 rfl (fun dm c=>?_) (fun dm c=>?_)
 ·have dr : p.kind = 14:=dm;refine C.cT c rfl ?_;have BL:=K.lk;have bz:=K;clear K;have HX:=Kept.refl [lp] w4;refine C.region ?_;(iterate 3 refine L.s c fun _ c=>?_);refine L.store c Aa Z1 rfl rfl rfl BL (by (simp [Value.cells]; done)) fun _ w5 c el bj=>?_;have ak:=bj.size;replace j:=j.mod (Mod.o1 (M:=[]) (B:=B) bj BL (by omega)) (by decide) l.size;replace l:=l.trans ((Mod.o1 (M:=[]) (B:=B) bj BL dp).mono (by decide) (by simp) (Nat.le_refl _));replace BP:=BP.kn bj;replace u:=u.kn bj;replace n:=n.kn bj;replace HX:=HX.trans bj (by intro x hx f3; simp at hx; subst hx; simp);replace BL:=el;simp only [Value.cells,List.setIfInBounds_toArray,List.set_cons_zero,List.set_cons_succ,Nat.reduceAdd,Nat.zero_add] at BL;clear bj;refine wn k1 ?_;refine wp_seq_k fun _ k1=>?_;replace BL : Blk w5 lp 76 (Um kk (Bf now) cn):=BL;have K:=bz.setLk HX BL;clear bz HX BL;refine C.region ?_;(iterate 2 refine L.s c fun _ c=>?_);refine L.cl c (Ji c Tryz.call26) (Qd b lp sp SA sc (Bf now) cn s B _ K ar.len) ?_;rintro e w6 ⟨A4,c4,D4,n4,d4,en,m2,f8,rfl,h,bm,OU⟩;replace OU:=OU.lw l.size;have HE : Mod [29,76,111,185,143,160,79] [s.im,s.gm] B w w6:=(l.mono (by decide) (fun _ h9=>h9) (Nat.le_refl _)).trans (.of_blk h K.bb K.lob (by simp));refine ⟨_,rfl,fun _ c=>?_⟩;have aq:=h.size;replace n:=n.kept h (by simp; omega)
  clear h;refine L.storeR c Aa Gh rfl rfl rfl n rfl rfl fun _ w7 c b4 t=>?_;have ay:=t.size;replace HE:=HE.kN t (by simp; omega);replace bm:=bm.kn t;replace OU:=OU.mod (Mod.o1 (M:=[]) t n (by omega)) (by decide);replace n:=b4;clear t;refine pe c k1 fun _ c=>?_;refine wp_ret ?_; (try simp only [xt,xb]); refine C.retCT c rfl rfl rfl n U48 rfl Gh ?_;exact .inl ⟨_,_,_,_,_,_,_,_,.inr dr,rfl,HE.blw hB,bm,OU⟩
 clear d
 exfalso
 omega
end Go.Proofs.YtkdeedhjkjffpaaGreat
namespace Go.Proofs.YtkdeedhjkjffpaaGreat
open Go.RowKit Go.Hub Go.Lib Go.Vl
theorem Zx2 (a : ByteArray) (b : ByteArray) (c : ByteArray) (d : ByteArray) (f : ByteArray) (g : ByteArray) (h : ByteArray) (k : ByteArray) (l : ByteArray) (m : ByteArray) : Instr.fill (fun i=>some (i * 1,1)) ((Array.range (10 * 1)).map fun j=>(Value.cells (.string ⟨#[]⟩))[j % (Value.cells (.string ⟨#[]⟩)).size]!) [(0,.string a),(1,.string b),(2,.string c),(3,.string d),(4,.string f),(5,.string g),(6,.string h),(7,.string k),(8,.string l),(9,.string m)] = some #[.string a,.string b,.string c,.string d,.string f,.string g,.string h,.string k,.string l,.string m]:=by kernel_rfl
theorem Zy2 (a : ByteArray) (b : ByteArray) (c : ByteArray) (d : ByteArray) (f : ByteArray) (g : ByteArray) (h : ByteArray) : Instr.fill (fun i=>some (i * 1,1)) ((Array.range (7 * 1)).map fun j=>(Value.cells (.string ⟨#[]⟩))[j % (Value.cells (.string ⟨#[]⟩)).size]!) [(0,.string a),(1,.string b),(2,.string c),(3,.string d),(4,.string f),(5,.string g),(6,.string h)] = some #[.string a,.string b,.string c,.string d,.string f,.string g,.string h]:=by kernel_rfl
theorem Zz2 (a : ByteArray) (b : ByteArray) (c : ByteArray) (d : ByteArray) (f : ByteArray) : Instr.fill (fun i=>some (i * 1,1)) ((Array.range (5 * 1)).map fun j=>(Value.cells (.string ⟨#[]⟩))[j % (Value.cells (.string ⟨#[]⟩)).size]!) [(0,.string a),(1,.string b),(2,.string c),(3,.string d),(4,.string f)] = some #[.string a,.string b,.string c,.string d,.string f]:=by kernel_rfl
theorem Z03 (a : ByteArray) (b : Option Addr) (f g : Nat) (c : Int) (d : Bool) : Tryz.prog.built 35 [(0,.string a),(1,.slice b f g),(2,.int .i64 c),(3,.bool d)] = some #[.string a,.slice b f g,.int .i64 c,.bool d]:=by kernel_rfl
theorem Z13 (a : Int) (b : Int) (c : ByteArray) (d : Bool) (f : Int) : Tryz.prog.built 39 [(0,.int .i64 a),(7,.int .i64 b),(8,.string c),(9,.bool d),(10,.int .i64 f)] = some #[.int .i64 a,(.bool false),(.bool false),(.int .i64 0),(.int .i64 0),(.string ⟨#[]⟩),(.slice none 0 0),.int .i64 b,.string c,.bool d,.int .i64 f,(.bool false),(.string ⟨#[]⟩),(.slice none 0 0),(.int .i64 0),(.bool false),(.bool false),(.bool false),(.string ⟨#[]⟩),(.slice none 0 0),(.bool false),(.int .i64 0),(.slice none 0 0),(.slice none 0 0)]:=by kernel_rfl
def p7 : List ByteArray:=[⟨#[97]⟩,⟨#[97,47,98]⟩,⟨#[98,47,99]⟩,⟨#[36,115,47,97]⟩,⟨#[97,47,47,98]⟩,⟨#[195,169,47,97]⟩,⟨#[99]⟩]
def p10 : List ByteArray:=[⟨#[97]⟩,⟨#[35]⟩,⟨#[97,47,43]⟩,⟨#[43,47,98]⟩,⟨#[97,47,35]⟩,⟨#[98,47,99]⟩,⟨#[36,115,47,35]⟩,⟨#[43]⟩,⟨#[43,47,43]⟩,⟨#[195,169,47,35]⟩]
def p5 : List ByteArray:=[⟨#[107]⟩,⟨#[108]⟩,⟨#[109]⟩,⟨#[195,169]⟩,⟨#[]⟩]
def Fd (k : Int) : ByteArray:=p7.getD (k % 7).toNat em
def filterS (k : Int) : ByteArray:=p10.getD (k % 10).toNat em
def Ug (k : Int) : ByteArray:=p5.getD (k % 5).toNat em
theorem Jb (l : List ByteArray) (i : Nat) (h : i < l.length) : l[i]? = some (l.getD i em):=by rw [List.getD_eq_getElem?_getD,List.getElem?_eq_getElem h]; rfl
theorem X6 {w : World} {g t : Nat} {l : List ByteArray} (B : Blk w g t (l.map Value.string).toArray) : Sl w (some ⟨g,0,none⟩) l.length 1 (l.map Value.string):=by
  have h:=B.slN (n:=l.length) (size:=1) (by simp)
  simpa using h
theorem Qo {w : World} {A : Option Addr} {b a : Nat} {l : List ByteArray} {x : ByteArray} {i : Int} (h : Sl w A l.length 1 (l.map Value.string)) (d : A = some ⟨b,a,none⟩) (c : l[i.toNat]? = some x) : w.cell? ⟨b,a + i.toNat * 1,none⟩ = some (.string x):=by
  have f:=(List.getElem?_eq_some_iff.1 c).1;rw [Nat.mul_one];exact Sl.cell h (by omega) d (by simp [c])
def Fq (a b c : Int) : Pk:=if Ug a = em then { kind:=1,level:=4,client:=Ug a,clean:=decide (0 < b % 9),keep:=c % 5 } else { kind:=1,level:=4,client:=Ug a,clean:=decide (b % 2 = 0),keep:=c % 5 }
def K0 (a b c : Int) (x : List UInt8) (p : Pk) : Pk:=if c % 3 = 0 then { p with hasWill:=true,wt:=Fd c,wp:=x,wq:=a % 3,wr:=decide (b % 3 = 0) } else p
def X7 (a : Int) (p : Pk) : Pk:=if a % 8 = 7 then { p with level:=3 } else p
def X8 (b : Int) (x : List UInt8) (p : Pk) : Pk:=if b % 10 = 9 then { p with hasUser:=true,user:=⟨#[117]⟩,hasPass:=true,pass:=x } else p
def Dc (a b c : Int) (x : List UInt8) : Pk:=X8 b x (X7 a (K0 a b c x (Fq a b c)))
theorem Wh (a b c : Int) : (Fq a b c).pay = [] ∧ (Fq a b c).wp = [] ∧ (Fq a b c).pass = [] ∧ (Fq a b c).subs = [] ∧ (Fq a b c).codes = []:=by
  unfold Fq
  split <;> exact ⟨rfl,rfl,rfl,rfl,rfl⟩
def adC (b c : Int) (A : Option Addr) (cx : Nat) : Ad:=if b % 10 = 9 then { (if c % 3 = 0 then { s0 with wa:=A,wc:=cx } else s0 : Ad) with sa:=A,sc:=cx } else (if c % 3 = 0 then { s0 with wa:=A,wc:=cx } else s0)
theorem X9 {W : World} {B : Nat} {a b c : Int} {x : List UInt8} {A : Option Addr} {j : Nat} (S : Bs [5,79,3] B W A x.length x) : PkS B W (Dc a b c x) (adC b c A j):=by
  unfold adC;obtain ⟨d,f,g,h,i⟩:=Wh a b c;unfold Dc X8 X7 K0
  by_cases l : b % 10 = 9 <;> by_cases m : c % 3 = 0 <;> by_cases k : a % 8 = 7 <;> simp only [l,m,k,if_true,if_false,reduceIte] <;> constructor <;> (first | exact S | (simp only [d,f,g,h,i]; exact Bs.nil _ _ _ _) | (simp only [d,f,g,h,i]; exact Cs.nil _ _ _ _ _))
theorem Gb (k : Int) (w : World) (o : 0 ≤ k ∧ k < 256) : Calls Tryz.prog 17 #[.int .u8 k] w (fun e w'=>Kept [] w w' ∧ e = .returned (.string (filterS k))):=by
 have b : Kept [] w w:=Kept.refl [] w;refine Bw Tryz.func17 Tryz.ntmps17 fun _ f=>?_;refine pr f fun _ f=>?_;refine wp_seq_k fun _ m=>?_;have j : p10[(k % 10).toNat]? = some (filterS k):=Jb p10 _ (by show _ < 10; omega);refine C.region ?_;refine L.buildSlice f Aa (by decide) (pL f rfl) U46 Zl rfl rfl (Zx2 _ _ _ _ _ _ _ _ _ _) fun _ p n N f=>?_;have i:=X6 (l:=p10) N.blk;obtain ⟨h,q,a,d,g⟩:=N.al;have c:=b.lo a;replace b:=b.z q;clear N q;refine L.s f fun _ f=>?_;refine L.va f (E.rem f rfl rfl (by omega) (Int.tmod_eq_emod_of_nonneg (by omega))) fun _ f=>?_;refine L.va f (E.indexA f (by rfl) U46 Z2 rfl rfl (by omega) (by omega)) fun _ f=>?_;refine L.lo f (Qo i rfl j) fun _ f=>?_;refine re f m ?_;exact ⟨b,rfl⟩
theorem Qp (k : Int) (w : World) (o : 0 ≤ k ∧ k < 256) : Calls Tryz.prog 16 #[.int .u8 k] w (fun e w'=>Kept [] w w' ∧ e = .returned (.string (Fd k))):=by
 have b : Kept [] w w:=Kept.refl [] w;refine Bw Tryz.func16 Tryz.ntmps16 fun _ f=>?_;refine pr f fun _ f=>?_;refine wp_seq_k fun _ m=>?_;have j : p7[(k % 7).toNat]? = some (Fd k):=Jb p7 _ (by show _ < 7; omega);refine C.region ?_;refine L.buildSlice f Aa (by decide) (pL f rfl) U46 Zl rfl rfl (Zy2 _ _ _ _ _ _ _) fun _ p n N f=>?_;have i:=X6 (l:=p7) N.blk;obtain ⟨h,q,a,d,g⟩:=N.al;have c:=b.lo a;replace b:=b.z q;clear N q;refine L.s f fun _ f=>?_;refine L.va f (E.rem f rfl rfl (by omega) (Int.tmod_eq_emod_of_nonneg (by omega))) fun _ f=>?_;refine L.va f (E.indexA f (by rfl) U46 Z2 rfl rfl (by omega) (by omega)) fun _ f=>?_;refine L.lo f (Qo i rfl j) fun _ f=>?_;refine re f m ?_;exact ⟨b,rfl⟩
theorem Wi (m b c : Int) (x : List UInt8) (A : Option Addr) (cx : Nat) (w : World) (SX : Sl w A x.length 1 (x.map u8)) (ha : 0 ≤ m ∧ m < 256) (hb : 0 ≤ b ∧ b < 256) (hc : 0 ≤ c ∧ c < 256) : Calls Tryz.prog 18 #[.int .u8 m,.int .u8 b,.int .u8 c,.slice A x.length cx] w (fun e w'=>Kept [] w w' ∧ e = .returned (.agg ((Dc m b c x).cells (adC b c A cx)))):=by
 have i : Kept [] w w:=Kept.refl [] w;refine Bw Tryz.func18 Tryz.ntmps18 fun _ f=>?_;refine C.sk fun _ k=>?_;refine L.alloc f Aa (by decide) (z:=(.agg #[(.int .i64 0),(.bool false),(.bool false),(.int .i64 0),(.int .i64 0),(.string ⟨#[]⟩),(.slice none 0 0),(.int .i64 0),(.string ⟨#[]⟩),(.bool false),(.int .i64 0),(.bool false),(.string ⟨#[]⟩),(.slice none 0 0),(.int .i64 0),(.bool false),(.bool false),(.bool false),(.string ⟨#[]⟩),(.slice none 0 0),(.bool false),(.int .i64 0),(.slice none 0 0),(.slice none 0 0)])) (fun _=>by kernel_rfl) rfl fun _ w1 g0 N f=>?_;obtain ⟨g,q,aj,bl,bo⟩:=N.al;have bg:=i.lo aj;replace i:=i.z q;clear N q;refine wn k ?_;refine wp_seq_k fun _ k=>?_;have hx : p5[(m % 5).toNat]? = some (Ug m):=Jb p5 _ (by show _ < 5; omega);refine C.region ?_;refine L.buildSlice f Aa (by decide) (pL f rfl) U46 Zl rfl rfl (Zz2 _ _ _ _ _) fun _ w2 g1 N f=>?_;have SL:=X6 (l:=p5) N.blk;obtain ⟨y,q,ak,bm,bp⟩:=N.al;have bh:=i.lo ak;have ap : g0 ≠ g1:=by have:=g.lt; omega
 replace i:=i.z q;replace g:=g.z q;clear N q;refine L.s f fun _ f=>?_;refine L.va f (E.rem f rfl rfl (by omega) (Int.tmod_eq_emod_of_nonneg (by omega))) fun _ f=>?_;refine L.va f (E.indexA f (by rfl) U46 Z2 rfl rfl (by omega) (by omega)) fun _ f=>?_;refine L.lo f (Qo SL rfl hx) fun _ f=>?_;refine L.s f fun _ f=>?_;refine L.va f (E.rem f rfl rfl (by omega) (Int.tmod_eq_emod_of_nonneg (by omega))) fun _ f=>?_;(iterate 2 refine L.s f fun _ f=>?_);refine L.va f (E.rem f rfl rfl (by omega) (Int.tmod_eq_emod_of_nonneg (by omega))) fun _ f=>?_;refine L.va f (E.conv f U5 U3 rfl (IntWalk.i64_in _ (by omega))) fun _ f=>?_;refine L.bd f (Z13 _ _ _ _ _) fun _ f=>?_;refine L.alloc f Aa (by decide) (z:=(.agg #[(.int .i64 0),(.bool false),(.bool false),(.int .i64 0),(.int .i64 0),(.string ⟨#[]⟩),(.slice none 0 0),(.int .i64 0),(.string ⟨#[]⟩),(.bool false),(.int .i64 0),(.bool false),(.string ⟨#[]⟩),(.slice none 0 0),(.int .i64 0),(.bool false),(.bool false),(.bool false),(.string ⟨#[]⟩),(.slice none 0 0),(.bool false),(.int .i64 0),(.slice none 0 0),(.slice none 0 0)])) (fun _=>by kernel_rfl) rfl fun _ w3 g2 N f=>?_;obtain ⟨a0,q,ao,bn,bq⟩:=N.al;have bi:=i.lo ao;have aq : g0 ≠ g2:=by have:=g.lt; omega
 have ar : g1 ≠ g2:=by have:=y.lt; omega
 replace i:=i.z q;replace g:=g.z q;replace y:=y.z q;clear N q;refine L.storeR f Aa Z8 rfl rfl rfl a0 rfl rfl fun _ w4 f b3 a7=>?_;have br:=a7.size;replace i:=i.trans a7 (B6 (by omega));replace g:=g.kn a7;replace y:=y.kn a7;replace a0:=b3;clear a7;refine wn k ?_;obtain ⟨J4,ab⟩ : ∃ J : Act → World → Prop,J = fun a W=>∃ (gq : Nat) (p : Pk),p = Fq m b c ∧ gq ≠ g0 ∧ w.heap.size ≤ gq ∧ Kept [] w W ∧ Blk W g0 39 Dg ∧ Blk W gq 39 (p.cells s0) ∧ Fr 57 a [(0,.int .u8 m),(1,.int .u8 b),(2,.int .u8 c),(3,.slice A x.length cx),(8,.pointer (some ⟨g0,0,none⟩)),(9,.pointer (some ⟨gq,0,none⟩))]:=⟨_,rfl⟩;refine C.cut J4 ?_ ?_
 ·skip;refine pr f fun _ h=>?_;refine C.sp h (fun h0 h=>?_) (fun h0 h=>?_)
  ·refine C.region ?_;refine L.s h fun _ d=>?_;refine L.va d (E.rem d rfl rfl (by omega) (Int.tmod_eq_emod_of_nonneg (by omega))) fun _ d=>?_;(iterate 2 refine L.s d fun _ d=>?_);refine L.store d Aa Z1 rfl rfl rfl a0 (by (simp [Value.cells]; done)) fun _ w5 d b4 a8=>?_;have bs:=a8.size;replace i:=i.trans a8 (B6 (by omega));replace g:=g.kn a8;replace y:=y.kn a8;replace a0:=b4;simp only [Value.cells,z1,z2,z3,Nat.reduceAdd,Nat.zero_add] at a0;clear a8;exact wpList_nil (jK J4 (by rw [ab]; exact ⟨g2,{ kind:=1,level:=4,client:=Ug m,clean:=decide (0 < b % 9),keep:=c % 5 },by unfold Fq; rw [if_pos (by assumption)],by omega,by omega,i,g,a0,d.sub (sx (sx (sx (sx (sx (sx sn))))))⟩))
  exact wp_skip (jK J4 (by rw [ab]; exact ⟨g2,{ kind:=1,level:=4,client:=Ug m,clean:=decide (b % 2 = 0),keep:=c % 5 },by unfold Fq; rw [if_neg (by assumption)],by omega,by omega,i,g,a0,h.sub (sx (sx (sx (sx (sx (sx sn))))))⟩))
 intro _ w5 hj;rw [ab] at hj;clear ab J4;obtain ⟨gq,p,hp,b5,c5,i,g,j,h⟩:=hj
 try clear f
 replace j : Blk w5 gq 39 #[.int .i64 p.kind,.bool p.dup,.bool p.retain,.int .i64 p.qos,.int .i64 p.id,.string p.topic,.slice s0.pa p.pay.length s0.pc,.int .i64 p.level,.string p.client,.bool p.clean,.int .i64 p.keep,.bool p.hasWill,.string p.wt,.slice s0.wa p.wp.length s0.wc,.int .i64 p.wq,.bool p.wr,.bool p.hasUser,.bool p.hasPass,.string p.user,.slice s0.sa p.pass.length s0.sc,.bool p.present,.int .i64 p.code,.slice s0.ua p.subs.length s0.uc,.slice s0.ca p.codes.length s0.cc]:=j;have bk : g0 ≠ gq:=fun e=>b5 e.symm;obtain ⟨J6,ac⟩ : ∃ J : Act → World → Prop,J = fun a W=>∃ (n : Pk) (r : Ad),n = K0 m b c x p ∧ r = (if c % 3 = 0 then { s0 with wa:=A,wc:=cx } else s0) ∧ Kept [] w W ∧ Blk W g0 39 Dg ∧ Blk W gq 39 (n.cells r) ∧ Fr 57 a [(0,.int .u8 m),(1,.int .u8 b),(3,.slice A x.length cx),(8,.pointer (some ⟨g0,0,none⟩)),(9,.pointer (some ⟨gq,0,none⟩))]:=⟨_,rfl⟩;refine C.cut J6 ?_ ?_
 ·skip;refine C.sk fun _ k=>?_;refine L.s h fun _ f=>?_;refine L.va f (E.rem f rfl rfl (by omega) (Int.tmod_eq_emod_of_nonneg (by omega))) fun _ f=>?_;refine pe f k fun _ f=>?_;refine C.sp f (fun h1 f=>?_) (fun h1 f=>?_)
  ·refine C.region ?_;refine L.s f fun _ d=>?_;refine L.cl d (Dt d Tryz.call16) (Qp c _ hc) ?_;rintro e w6 ⟨q,rfl⟩;refine ⟨_,rfl,fun _ d=>?_⟩;have bt:=q.size;replace i:=i.z q;replace g:=g.z q;replace j:=j.z q;clear q;(iterate 2 refine L.s d fun _ d=>?_);refine L.va d (E.rem d rfl rfl (by omega) (Int.tmod_eq_emod_of_nonneg (by omega))) fun _ d=>?_;refine L.va d (E.conv d U5 U3 rfl (IntWalk.i64_in _ (by omega))) fun _ d=>?_;refine L.s d fun _ d=>?_;refine L.va d (E.rem d rfl rfl (by omega) (Int.tmod_eq_emod_of_nonneg (by omega))) fun _ d=>?_;refine L.s d fun _ d=>?_;refine L.bd d (Z03 _ _ _ _ _ _) fun _ d=>?_;refine L.s d fun _ d=>?_;refine L.store d Aa Z1 rfl rfl rfl j (by (simp [Value.cells]; done)) fun _ w7 d ae t=>?_;have au:=t.size;replace i:=i.trans t (B6 (by omega));replace g:=g.kn t;replace j:=ae;simp only [Value.cells,z1,z2,z3,Nat.reduceAdd,Nat.zero_add] at j;clear t;refine L.s d fun _ d=>?_;refine L.storeSeg d Aa Z5 rfl rfl rfl j (Nat.le_of_ble_eq_true rfl) rfl fun _ w8 d af u=>?_;have av:=u.size;replace i:=i.trans u (B6 (by omega));replace g:=g.kn u;replace j:=af;simp only [Gd,List.set_cons_zero,List.set_cons_succ,Nat.reduceAdd,Nat.zero_add] at j;clear u
   exact wpList_nil (jK J6 (by rw [ac]; exact ⟨{ p with hasWill:=true,wt:=Fd c,wp:=x,wq:=m % 3,wr:=decide (b % 3 = 0) },{ s0 with wa:=A,wc:=cx },by unfold K0; rw [if_pos (by assumption)],by rw [if_pos (by assumption)],i,g,j,d.sub (sx (sx (sx (sx (sx sn)))))⟩))
  exact wp_skip (jK J6 (by rw [ac]; exact ⟨p,s0,by unfold K0; rw [if_neg (by assumption)],by rw [if_neg (by assumption)],i,g,j,f.sub (sx (sx (sx (sx (sx sn)))))⟩))
 intro _ w6 hj;rw [ac] at hj;clear ac J6;obtain ⟨n,r,b6,b9,i,g,j,f⟩:=hj
 try clear h
 replace j : Blk w6 gq 39 #[.int .i64 n.kind,.bool n.dup,.bool n.retain,.int .i64 n.qos,.int .i64 n.id,.string n.topic,.slice r.pa n.pay.length r.pc,.int .i64 n.level,.string n.client,.bool n.clean,.int .i64 n.keep,.bool n.hasWill,.string n.wt,.slice r.wa n.wp.length r.wc,.int .i64 n.wq,.bool n.wr,.bool n.hasUser,.bool n.hasPass,.string n.user,.slice r.sa n.pass.length r.sc,.bool n.present,.int .i64 n.code,.slice r.ua n.subs.length r.uc,.slice r.ca n.codes.length r.cc]:=j;obtain ⟨J8,ad⟩ : ∃ J : Act → World → Prop,J = fun a W=>∃ (o : Pk),o = X7 m n ∧ Kept [] w W ∧ Blk W g0 39 Dg ∧ Blk W gq 39 (o.cells r) ∧ Fr 57 a [(1,.int .u8 b),(3,.slice A x.length cx),(8,.pointer (some ⟨g0,0,none⟩)),(9,.pointer (some ⟨gq,0,none⟩))]:=⟨_,rfl⟩;refine C.cut J8 ?_ ?_
 ·skip;refine C.sk fun _ k=>?_;refine L.s f fun _ h=>?_;refine L.va h (E.rem h rfl rfl (by omega) (Int.tmod_eq_emod_of_nonneg (by omega))) fun _ h=>?_;refine pe h k fun _ h=>?_;refine C.sp h (fun h2 h=>?_) (fun h2 h=>?_)
  ·refine C.region ?_;refine L.s h fun _ d=>?_;refine L.store d Aa Z0 rfl rfl rfl j (by (simp [Value.cells]; done)) fun _ w7 d ae t=>?_;have au:=t.size;replace i:=i.trans t (B6 (by omega));replace g:=g.kn t;replace j:=ae;simp only [Value.cells,z1,z2,z3,Nat.reduceAdd,Nat.zero_add] at j;clear t;exact wpList_nil (jK J8 (by rw [ad]; exact ⟨{ n with level:=3 },by unfold X7; rw [if_pos (by assumption)],i,g,j,d.sub (sx (sx (sx (sx sn))))⟩))
  exact wp_skip (jK J8 (by rw [ad]; exact ⟨n,by unfold X7; rw [if_neg (by assumption)],i,g,j,h.sub (sx (sx (sx (sx sn))))⟩))
 intro _ w7 hj;rw [ad] at hj;clear ad J8;obtain ⟨o,b7,i,g,j,h⟩:=hj
 try clear f
 replace j : Blk w7 gq 39 #[.int .i64 o.kind,.bool o.dup,.bool o.retain,.int .i64 o.qos,.int .i64 o.id,.string o.topic,.slice r.pa o.pay.length r.pc,.int .i64 o.level,.string o.client,.bool o.clean,.int .i64 o.keep,.bool o.hasWill,.string o.wt,.slice r.wa o.wp.length r.wc,.int .i64 o.wq,.bool o.wr,.bool o.hasUser,.bool o.hasPass,.string o.user,.slice r.sa o.pass.length r.sc,.bool o.present,.int .i64 o.code,.slice r.ua o.subs.length r.uc,.slice r.ca o.codes.length r.cc]:=j;obtain ⟨aa,a2⟩ : ∃ J : Act → World → Prop,J = fun a W=>∃ (p3 : Pk) (s3 : Ad),p3 = X8 b x o ∧ s3 = (if b % 10 = 9 then { r with sa:=A,sc:=cx } else r) ∧ Kept [] w W ∧ Blk W g0 39 Dg ∧ Blk W gq 39 (p3.cells s3) ∧ Fr 57 a [(8,.pointer (some ⟨g0,0,none⟩)),(9,.pointer (some ⟨gq,0,none⟩))]:=⟨_,rfl⟩;refine C.cut aa ?_ ?_
 ·skip;refine C.sk fun _ k=>?_;refine L.s h fun _ f=>?_;refine L.va f (E.rem f rfl rfl (by omega) (Int.tmod_eq_emod_of_nonneg (by omega))) fun _ f=>?_;refine pe f k fun _ f=>?_;refine C.sp f (fun h3 f=>?_) (fun h3 f=>?_)
  ·refine C.region ?_;refine L.s f fun _ d=>?_;refine L.s d fun _ d=>?_;refine L.store d Aa Z1 rfl rfl rfl j (by (simp [Value.cells]; done)) fun _ w8 d af u=>?_;have av:=u.size;replace i:=i.trans u (B6 (by omega));replace g:=g.kn u;replace j:=af;simp only [Value.cells,z1,z2,z3,Nat.reduceAdd,Nat.zero_add] at j;clear u;refine L.s d fun _ d=>?_;refine L.store d Aa Z2 rfl rfl rfl j (by (simp [Value.cells]; done)) fun _ w9 d ag v=>?_;have aw:=v.size;replace i:=i.trans v (B6 (by omega));replace g:=g.kn v;replace j:=ag;simp only [Value.cells,z1,z2,z3,Nat.reduceAdd,Nat.zero_add] at j;clear v;refine L.s d fun _ d=>?_;refine L.store d Aa Z1 rfl rfl rfl j (by (simp [Value.cells]; done)) fun _ c9 d ah a3=>?_;have bb:=a3.size;replace i:=i.trans a3 (B6 (by omega));replace g:=g.kn a3;replace j:=ah;simp only [Value.cells,z1,z2,z3,Nat.reduceAdd,Nat.zero_add] at j;clear a3;refine L.s d fun _ d=>?_;refine L.store d Aa Z3 rfl rfl rfl j (by (simp [Value.cells]; done)) fun _ cb d ai a4=>?_;have bc:=a4.size;replace i:=i.trans a4 (B6 (by omega));replace g:=g.kn a4;replace j:=ai;simp only [Value.cells,z1,z2,z3,Nat.reduceAdd,Nat.zero_add] at j;clear a4
   exact wpList_nil (jK aa (by rw [a2]; exact ⟨{ o with hasUser:=true,user:=⟨#[117]⟩,hasPass:=true,pass:=x },{ r with sa:=A,sc:=cx },by unfold X8; rw [if_pos (by assumption)],by rw [if_pos (by assumption)],i,g,j,d.sub (sx (sx sn))⟩))
  exact wp_skip (jK aa (by rw [a2]; exact ⟨o,r,by unfold X8; rw [if_neg (by assumption)],by rw [if_neg (by assumption)],i,g,j,f.sub (sx (sx sn))⟩))
 intro _ w8 hj;rw [a2] at hj;clear a2 aa;obtain ⟨p3,s3,b8,ba,i,g,j,f⟩:=hj
 try clear h
 refine C.sk fun _ k=>?_;refine L.s f fun _ f=>?_;refine L.storeR f Aa Z8 rfl rfl rfl g rfl rfl fun _ w9 f ag v=>?_;have aw:=v.size;replace i:=i.trans v (B6 (by omega));replace j:=j.kn v;replace g:=ag;clear v;refine wn k (wp_ret ?_); (try simp only [xt,xb]); refine C.retC f rfl rfl g U39 rfl Z8 ?_;have he : p3 = Dc m b c x:=by rw [b8,b7,b6,hp]; rfl
 have hs : s3 = adC b c A cx:=by rw [ba,b9]; rfl
 exact ⟨i,by rw [← he,← hs]⟩
end Go.Proofs.YtkdeedhjkjffpaaGreat
namespace Go.Proofs.YtkdeedhjkjffpaaGreat
open Go.RowKit Go.Hub Go.Lib Go.Vl
theorem Z23 (a b : Value) (c d : Value) : Instr.fill (fun i=>some (i * 2,2)) ((Array.range (2 * 2)).map fun j=>(Value.cells (.agg #[(.string ⟨#[]⟩),(.int .i64 0)]))[j % (Value.cells (.agg #[(.string ⟨#[]⟩),(.int .i64 0)])).size]!) [(0,.agg #[a,b]),(1,.agg #[c,d])] = some #[a,b,c,d]:=by kernel_rfl
theorem Z33 (a : Int) (b : Int) (c : Option Addr) (d f : Nat) : Tryz.prog.built 39 [(0,.int .i64 a),(4,.int .i64 b),(19,.slice c d f)] = some #[.int .i64 a,(.bool false),(.bool false),(.int .i64 0),.int .i64 b,(.string ⟨#[]⟩),(.slice none 0 0),(.int .i64 0),(.string ⟨#[]⟩),(.bool false),(.int .i64 0),(.bool false),(.string ⟨#[]⟩),(.slice none 0 0),(.int .i64 0),(.bool false),(.bool false),(.bool false),(.string ⟨#[]⟩),(.slice none 0 0),(.bool false),(.int .i64 0),.slice c d f,(.slice none 0 0)]:=by kernel_rfl
theorem Z43 (a : Int) (b : ByteArray) (c : Option Addr) (g h : Nat) (d : Int) (f : Bool) : Tryz.prog.built 39 [(0,.int .i64 a),(5,.string b),(6,.slice c g h),(3,.int .i64 d),(2,.bool f)] = some #[.int .i64 a,(.bool false),.bool f,.int .i64 d,(.int .i64 0),.string b,.slice c g h,(.int .i64 0),(.string ⟨#[]⟩),(.bool false),(.int .i64 0),(.bool false),(.string ⟨#[]⟩),(.slice none 0 0),(.int .i64 0),(.bool false),(.bool false),(.bool false),(.string ⟨#[]⟩),(.slice none 0 0),(.bool false),(.int .i64 0),(.slice none 0 0),(.slice none 0 0)]:=by kernel_rfl
theorem Z53 (a : ByteArray) : Tryz.prog.built 79 [(0,.string a)] = some #[.string a,(.int .i64 0)]:=by kernel_rfl
theorem Jc {B : Nat} {w w' : World} (a : Kept [] w w') : Same [5,79,3] B w w':=Same.of_kept a (by simp)
theorem Cs.of_sl {E : List TypeId} {B : Nat} {w : World} {A : Option Addr} {n size : Nat} {xs : List Value} (h : Sl w A n size xs) (g : ∀ b,A.map (·.block) = some b → Typ w b E) : Cs E B w A n size xs:=
  ⟨h.1,fun f=>by
    obtain ⟨b,a,e,c,d⟩:=h.2 f
    subst e
    exact ⟨b,a,rfl,c,.inr (g b rfl),d⟩⟩
theorem x0m {w : World} {g t : Nat} {cs : Array Value} (B : Blk w g t cs) (h : t ∈ [5,79,3]) : ∀ b,(some (⟨g,0,none⟩ : Addr)).map (·.block) = some b → Typ w b [5,79,3]:=fun b a=>by
  injection a with a
  subst a
  exact ⟨cs,t,_,B,h⟩
def y7w (B : Nat) (A : Option Addr) (p : Pk) (w : World) (e : Ending) (w' : World) : Prop:=∃ s,e = .returned (.agg (p.cells s)) ∧ Kept [] w w' ∧ PkS B w' p s ∧ (∀ b,s.ua.map (·.block) = some b → w.heap.size ≤ b ∧ Typ w' b [5,79,3]) ∧ (s.pa = A ∨ p.pay = [])
theorem y5m (b c : Int) (A : Option Addr) (a : Nat) : (adC b c A a).ua = none:=by unfold adC; split <;> split <;> rfl
theorem M9 (a b c : Int) (x : List UInt8) : (Dc a b c x).pay = []:=by
  obtain ⟨d,_⟩:=Wh a b c;unfold Dc X8 X7 K0
  by_cases g : b % 10 = 9 <;> by_cases h : c % 3 = 0 <;> by_cases f : a % 8 = 7 <;> simp only [g,h,f,if_true,if_false,reduceIte] <;> exact d
def Uh (a b c : Int) (x : List UInt8) : Pk:=if 0 < b % 3 then { kind:=3,topic:=Fd a,pay:=x,qos:=b % 3,retain:=decide (c % 2 = 0),id:=c % 5 + 1,dup:=decide (c % 7 = 0) } else { kind:=3,topic:=Fd a,pay:=x,qos:=b % 3,retain:=decide (c % 2 = 0) }
def sub2 (c : Int) (l : List (ByteArray × Int)) : List (ByteArray × Int):=if c % 3 = 0 then l ++ [(filterS c,c % 2)] else l
def sub3 (c : Int) (l : List (ByteArray × Int)) : List (ByteArray × Int):=if c % 11 = 0 then l ++ [(⟨#[97,35]⟩,1)] else l
def Q3 (a c : Int) : List (ByteArray × Int):=if c % 2 = 0 then [(filterS a,0)] else [(filterS a,0),(filterS c,0)]
def Db (k a b c : Int) (x : List UInt8) : Pk:=
  if k % 15 ≤ 3 then Uh a b c x
  else if k % 15 ≤ 6 then { kind:=8,id:=b % 7 + 1,subs:=sub3 c (sub2 c [(filterS a,b % 3)]) }
  else if k % 15 = 7 then { kind:=10,id:=b % 7 + 1,subs:=Q3 a c }
  else if k % 15 = 8 then { kind:=4,id:=b % 7 + 1 }
  else if k % 15 = 9 then { kind:=5,id:=b % 7 + 1 }
  else if k % 15 = 10 then { kind:=7,id:=b % 7 + 1 }
  else if k % 15 = 11 then { kind:=6,id:=c % 5 + 1 }
  else if k % 15 = 12 then { kind:=12 }
  else if k % 15 = 13 then Dc a b c x
  else { kind:=14 }
section
variable {k a b c : Int} {x : List UInt8}
theorem K1 (h : k % 15 ≤ 3) : Db k a b c x = if 0 < b % 3 then { kind:=3,topic:=Fd a,pay:=x,qos:=b % 3,retain:=decide (c % 2 = 0),id:=c % 5 + 1,dup:=decide (c % 7 = 0) } else { kind:=3,topic:=Fd a,pay:=x,qos:=b % 3,retain:=decide (c % 2 = 0) }:=by unfold Db; rw [if_pos h]; rfl
theorem Wj (h : 4 ≤ k % 15 ∧ k % 15 ≤ 6) : Db k a b c x = { kind:=8,id:=b % 7 + 1,subs:=sub3 c (sub2 c [(filterS a,b % 3)]) }:=by unfold Db; rw [if_neg (by omega),if_pos h.2]
theorem Wk (h : k % 15 = 7) : Db k a b c x = { kind:=10,id:=b % 7 + 1,subs:=Q3 a c }:=by unfold Db; rw [if_neg (by omega),if_neg (by omega),if_pos h]
theorem x8c (h : k % 15 = 8) : Db k a b c x = { kind:=4,id:=b % 7 + 1 }:=by unfold Db; rw [if_neg (by omega),if_neg (by omega),if_neg (by omega),if_pos h]
theorem x8d (h : k % 15 = 9) : Db k a b c x = { kind:=5,id:=b % 7 + 1 }:=by unfold Db; rw [if_neg (by omega),if_neg (by omega),if_neg (by omega),if_neg (by omega),if_pos h]
theorem x8e (h : k % 15 = 10) : Db k a b c x = { kind:=7,id:=b % 7 + 1 }:=by unfold Db; rw [if_neg (by omega),if_neg (by omega),if_neg (by omega),if_neg (by omega),if_neg (by omega),if_pos h]
theorem x8f (h : k % 15 = 11) : Db k a b c x = { kind:=6,id:=c % 5 + 1 }:=by unfold Db; rw [if_neg (by omega),if_neg (by omega),if_neg (by omega),if_neg (by omega),if_neg (by omega),if_neg (by omega),if_pos h]
theorem x8g (h : k % 15 = 12) : Db k a b c x = { kind:=12 }:=by unfold Db; rw [if_neg (by omega),if_neg (by omega),if_neg (by omega),if_neg (by omega),if_neg (by omega),if_neg (by omega),if_neg (by omega),if_pos h]
theorem Wl (h : k % 15 = 13) : Db k a b c x = Dc a b c x:=by unfold Db; rw [if_neg (by omega),if_neg (by omega),if_neg (by omega),if_neg (by omega),if_neg (by omega),if_neg (by omega),if_neg (by omega),if_neg (by omega),if_pos h]
theorem x8h (h : 14 ≤ k % 15) : Db k a b c x = { kind:=14 }:=by unfold Db; rw [if_neg (by omega),if_neg (by omega),if_neg (by omega),if_neg (by omega),if_neg (by omega),if_neg (by omega),if_neg (by omega),if_neg (by omega),if_neg (by omega)]
end
theorem y1l (a c : Int) : (Q3 a c).length = (1 + c % 2).toNat:=by
  unfold Q3
  rcases (by omega : c % 2 = 0 ∨ c % 2 = 1) with h | h
  · rw [if_pos h,h]; rfl
  rw [if_neg (by omega),h]; rfl
theorem y5n {w : World} {g : Nat} {a c : Int} (B : Blk w g 79 #[.string (filterS a),.int .i64 0,.string (filterS c),.int .i64 0]) : Sl w (some ⟨g,0,none⟩) (Q3 a c).length 2 (subCells (Q3 a c)):=by
  unfold Q3
  split
  · exact ⟨rfl,fun _=>⟨g,0,rfl,B.lt,fun j u b=>by
      rw [Nat.zero_add];refine B.cl ?_
      match j,b with
      | 0,b=>exact b
      | 1,b=>exact b
      | n + 2,b=>simp [subCells] at b⟩⟩
  exact B.slN (n:=2) (size:=2) rfl
theorem Jd (l : List (ByteArray × Int)) (x : ByteArray × Int) : subCells (l ++ [x]) = subCells l ++ [.string x.1,.int .i64 x.2]:=by simp [subCells]
theorem y5o {w w1 c : World} {g : Nat} {s : ByteArray} {i : Int} (d : w.heap.size ≤ w1.heap.size) (N : Newb w1 c g 79 #[.string s,.int .i64 i]) : Fresh w c 79 2 (some ⟨g,0,none⟩) ([(s,i)] : List (ByteArray × Int)).length 1 (subCells [(s,i)]):=
  ⟨N.own (k:=1) (size:=2) rfl (by decide),fun b a=>by
    simp at a
    subst a
    exact Nat.le_trans d N.lo⟩
theorem x8i (B0 : Nat) (k a6 b c : Int) (x : List UInt8) (A : Option Addr) (cx : Nat) (w : World) (SX : Bs [5,79,3] B0 w A x.length x) (hk : 0 ≤ k ∧ k < 256) (ay : 0 ≤ a6 ∧ a6 < 256) (hb : 0 ≤ b ∧ b < 256) (hc : 0 ≤ c ∧ c < 256) : Calls Tryz.prog 7 #[.int .u8 k,.int .u8 a6,.int .u8 b,.int .u8 c,.slice A x.length cx] w (y7w B0 A (Db k a6 b c x) w):=by
 have h : Kept [] w w:=Kept.refl [] w;refine Bw Tryz.func7 Tryz.ntmps7 fun _ f=>?_;refine C.sk fun _ k1=>?_;refine L.alloc f Aa (by decide) (z:=(.agg #[(.int .i64 0),(.bool false),(.bool false),(.int .i64 0),(.int .i64 0),(.string ⟨#[]⟩),(.slice none 0 0),(.int .i64 0),(.string ⟨#[]⟩),(.bool false),(.int .i64 0),(.bool false),(.string ⟨#[]⟩),(.slice none 0 0),(.int .i64 0),(.bool false),(.bool false),(.bool false),(.string ⟨#[]⟩),(.slice none 0 0),(.bool false),(.int .i64 0),(.slice none 0 0),(.slice none 0 0)])) (fun _=>by kernel_rfl) rfl fun _ w1 g0 N f=>?_;obtain ⟨g,q,cd,dg,dj⟩:=N.al;have d6:=h.lo cd;replace h:=h.z q;clear N q;refine wn k1 (C.sk fun _ k1=>?_);refine L.s f fun _ f=>?_;refine L.va f (E.rem f rfl rfl (by omega) (Int.tmod_eq_emod_of_nonneg (by omega))) fun _ f=>?_;refine L.va f (E.conv f U5 U3 rfl (IntWalk.i64_in _ (by omega))) fun _ f=>?_;refine pe f k1 fun _ f=>?_;refine wp_seq_k fun _ k1=>C.sk fun _ k2=>?_;refine L.s f fun _ f=>?_;refine L.va f (E.rem f rfl rfl (by omega) (Int.tmod_eq_emod_of_nonneg (by omega))) fun _ f=>?_;refine wn k2 ?_;refine wp_block ?_
 obtain ⟨J7,b3⟩ : ∃ J : Act → World → Prop,J = fun a W=>Kept [] w W ∧ Blk W g0 39 Dg ∧ Fr 130 a [(1,.int .u8 a6),(2,.int .u8 b),(3,.int .u8 c),(4,.slice A x.length cx),(10,.pointer (some ⟨g0,0,none⟩)),(11,.int .i64 (b % 7 + 1)),(19,.int .u8 (k % 15)),(20,.bool (decide (k % 15 ≤ 3)))]:=⟨_,rfl⟩;refine C.cut J7 ?_ ?_
 ·skip;refine pr f fun _ d=>?_;refine C.sp d (fun h0 d=>?_) (fun h0 d=>?_)
  ·have hm:=h0;exact wp_skip (jK J7 (by rw [b3]; exact ⟨h,g,d.sub (sx (sx (sx (sx (sx (sx (sx (Dx (by exact congrArg (fun t=>some (Value.bool t)) (decide_eq_true (by omega : k % 15 ≤ 3)).symm) sn))))))))⟩))
  refine pr d fun _ d=>?_;refine C.sp d (fun h1 d=>?_) (fun h1 d=>?_)
  ·have hm:=h1;exact wp_skip (jK J7 (by rw [b3]; exact ⟨h,g,d.sub (sx (sx (sx (sx (sx (sx (sx (Dx (by exact congrArg (fun t=>some (Value.bool t)) (decide_eq_true (by omega : k % 15 ≤ 3)).symm) sn))))))))⟩))
  refine pr d fun _ d=>?_;refine C.sp d (fun h2 d=>?_) (fun h2 d=>?_)
  ·have hm:=h2;exact wp_skip (jK J7 (by rw [b3]; exact ⟨h,g,d.sub (sx (sx (sx (sx (sx (sx (sx (Dx (by exact congrArg (fun t=>some (Value.bool t)) (decide_eq_true (by omega : k % 15 ≤ 3)).symm) sn))))))))⟩))
  refine C.region ?_;(iterate 2 refine L.s d fun _ d=>?_);exact wpList_nil (jK J7 (by rw [b3]; exact ⟨h,g,d.sub (sx (sx (sx (sx (sx (sx (sx (Dx (by exact congrArg (fun t=>some (Value.bool t)) (decide_eq_decide.2 (by omega))) sn))))))))⟩))
 intro _ w2 hj;rw [b3] at hj;clear b3 J7;obtain ⟨h,g,d⟩:=hj
 try clear f
 refine C.sp d (fun h3 f=>?_) (fun h3 f=>?_)
 ·have hm:=h3;refine C.sk fun _ k2=>?_;refine L.s f fun _ d=>?_;refine L.cl d (Dt d Tryz.call16) (Qp a6 _ ay) ?_;rintro e w3 ⟨q,rfl⟩;refine ⟨_,rfl,fun _ d=>?_⟩;have dl:=q.size;replace h:=h.z q;replace g:=g.z q;clear q;(iterate 2 refine L.s d fun _ d=>?_);refine L.va d (E.rem d rfl rfl (by omega) (Int.tmod_eq_emod_of_nonneg (by omega))) fun _ d=>?_;refine L.va d (E.conv d U5 U3 rfl (IntWalk.i64_in _ (by omega))) fun _ d=>?_;refine L.s d fun _ d=>?_;refine L.va d (E.rem d rfl rfl (by omega) (Int.tmod_eq_emod_of_nonneg (by omega))) fun _ d=>?_;refine L.s d fun _ d=>?_;refine L.bd d (Z43 _ _ _ _ _ _ _) fun _ d=>?_;refine L.alloc d Aa (by decide) (z:=(.agg #[(.int .i64 0),(.bool false),(.bool false),(.int .i64 0),(.int .i64 0),(.string ⟨#[]⟩),(.slice none 0 0),(.int .i64 0),(.string ⟨#[]⟩),(.bool false),(.int .i64 0),(.bool false),(.string ⟨#[]⟩),(.slice none 0 0),(.int .i64 0),(.bool false),(.bool false),(.bool false),(.string ⟨#[]⟩),(.slice none 0 0),(.bool false),(.int .i64 0),(.slice none 0 0),(.slice none 0 0)])) (fun _=>by kernel_rfl) rfl fun _ w4 g3 N d=>?_;obtain ⟨a5,q,ce,dh,a0⟩:=N.al;have d7:=h.lo ce;have cg : g0 ≠ g3:=by have:=g.lt; omega
  replace h:=h.z q;replace g:=g.z q;clear N q;refine L.storeR d Aa Z8 rfl rfl rfl a5 rfl rfl fun _ w5 d bq ak=>?_;have b0:=ak.size;replace h:=h.trans ak (B6 (by omega));replace g:=g.kn ak;replace a5:=bq;clear ak;refine wn k2 ?_;refine wp_seq_k fun _ k2=>?_;refine pr d fun _ d=>?_;refine C.sp d (fun h4 d=>?_) (fun h4 d=>?_)
  ·refine C.region ?_;refine L.s d fun _ j=>?_;refine L.va j (E.rem j rfl rfl (by omega) (Int.tmod_eq_emod_of_nonneg (by omega))) fun _ j=>?_;refine L.va j (E.conv j U5 U3 rfl (IntWalk.i64_in _ (by omega))) fun _ j=>?_;(iterate 2 refine L.s j fun _ j=>?_);refine L.va j (E.rem j rfl rfl (by omega) (Int.tmod_eq_emod_of_nonneg (by omega))) fun _ j=>?_;(iterate 2 refine L.s j fun _ j=>?_);refine L.store j Aa Z0 rfl rfl rfl a5 (by (simp [Value.cells]; done)) fun _ w6 j br ah=>?_;have ag:=ah.size;replace h:=h.trans ah (B6 (by omega));replace g:=g.kn ah;replace a5:=br;simp only [Value.cells,z1,z2,z3,Nat.reduceAdd,Nat.zero_add] at a5;clear ah;refine L.s j fun _ j=>?_;refine L.store j Aa Z1 rfl rfl rfl a5 (by (simp [Value.cells]; done)) fun _ w7 j aw r=>?_;have ac:=r.size;replace h:=h.trans r (B6 (by omega));replace g:=g.kn r;replace a5:=aw;simp only [Value.cells,z1,z2,z3,Nat.reduceAdd,Nat.zero_add] at a5;clear r;refine wn k2 (C.sk fun _ k3=>?_);refine L.s j fun _ j=>?_;refine L.storeR j Aa Z8 rfl rfl rfl g rfl rfl fun _ w8 j bs ad=>?_;have b1:=ad.size;replace h:=h.trans ad (B6 (by omega));replace a5:=a5.kn ad;replace g:=bs;clear ad;refine wn k3 (wp_ret ?_); (try simp only [xt,xb]); refine C.retC j rfl rfl g U39 rfl Z8 ?_
   exact ⟨{ s0 with pa:=A,pc:=cx },by rw [K1 hm,if_pos (by assumption)]; rfl,h,by rw [K1 hm,if_pos (by assumption)]; exact ⟨⟨SX.same (Jc h),Bs.nil _ _ _ _,Bs.nil _ _ _ _,Cs.nil _ _ _ _ _,Cs.nil _ _ _ _ _⟩,(fun b_ h_=>by cases h_),.inl rfl⟩⟩
  refine wp_skip (k2 _ _ ?_);refine C.sk fun _ k2=>?_;refine L.s d fun _ d=>?_;refine L.storeR d Aa Z8 rfl rfl rfl g rfl rfl fun _ w6 d br ah=>?_;have ag:=ah.size;replace h:=h.trans ah (B6 (by omega));replace a5:=a5.kn ah;replace g:=br;clear ah;refine wn k2 (wp_ret ?_); (try simp only [xt,xb]); refine C.retC d rfl rfl g U39 rfl Z8 ?_;exact ⟨{ s0 with pa:=A,pc:=cx },by rw [K1 hm,if_neg (by assumption)]; rfl,h,by rw [K1 hm,if_neg (by assumption)]; exact ⟨⟨SX.same (Jc h),Bs.nil _ _ _ _,Bs.nil _ _ _ _,Cs.nil _ _ _ _ _,Cs.nil _ _ _ _ _⟩,(fun b_ h_=>by cases h_),.inl rfl⟩⟩
 obtain ⟨b8,aj⟩ : ∃ J : Act → World → Prop,J = fun a W=>Kept [] w W ∧ Blk W g0 39 Dg ∧ Fr 130 a [(1,.int .u8 a6),(2,.int .u8 b),(3,.int .u8 c),(4,.slice A x.length cx),(10,.pointer (some ⟨g0,0,none⟩)),(11,.int .i64 (b % 7 + 1)),(19,.int .u8 (k % 15)),(48,.bool (decide (k % 15 ≤ 6)))]:=⟨_,rfl⟩;refine C.cut b8 ?_ ?_
 ·skip;refine pr f fun _ d=>?_;refine d.sD 48 rfl (fun h5 d=>?_) (fun h5 d=>?_)
  ·have hm : 4 ≤ k % 15 ∧ k % 15 ≤ 6:=by omega
   refine C.cT d rfl ?_;exact wp_skip (jK b8 (by rw [aj]; exact ⟨h,g,d.sub (sx (sx (sx (sx (sx (sx (sx (Dx (by exact congrArg (fun t=>some (Value.bool t)) (decide_eq_true (by omega : k % 15 ≤ 6)).symm) sn))))))))⟩))
  refine C.cF d rfl ?_;refine pr d fun _ d=>?_;refine d.sD 48 rfl (fun h6 d=>?_) (fun h6 d=>?_)
  ·have hm : 4 ≤ k % 15 ∧ k % 15 ≤ 6:=by omega
   refine C.cT d rfl ?_;exact wp_skip (jK b8 (by rw [aj]; exact ⟨h,g,d.sub (sx (sx (sx (sx (sx (sx (sx (Dx (by exact congrArg (fun t=>some (Value.bool t)) (decide_eq_true (by omega : k % 15 ≤ 6)).symm) sn))))))))⟩))
  refine C.cF d rfl ?_;refine C.region ?_;(iterate 2 refine L.s d fun _ d=>?_);exact wpList_nil (jK b8 (by rw [aj]; exact ⟨h,g,d.sub (sx (sx (sx (sx (sx (sx (sx (Dx (by exact congrArg (fun t=>some (Value.bool t)) (decide_eq_decide.2 (by omega))) sn))))))))⟩))
 intro _ w3 hj;rw [aj] at hj;clear aj b8;obtain ⟨h,g,d⟩:=hj
 try clear f
 refine d.sD 48 rfl (fun h7 f=>?_) (fun h7 f=>?_)
 ·have hm : 4 ≤ k % 15 ∧ k % 15 ≤ 6:=by omega
  refine C.cT f rfl ?_;obtain ⟨bp,bb⟩ : ∃ J : Act → World → Prop,J = fun a W=>∃ (gq : Nat) (l : List (ByteArray × Int)) (Aq : Option Addr) (cq : Nat),l = [(filterS a6,b % 3)] ∧ gq ≠ g0 ∧ w.heap.size ≤ gq ∧ Kept [] w W ∧ Blk W g0 39 Dg ∧ Blk W gq 39 (({ kind:=8,id:=b % 7 + 1,subs:=l } : Pk).cells { s0 with ua:=Aq,uc:=cq }) ∧ Fresh w W 79 2 Aq l.length cq (subCells l) ∧ Fr 130 a [(3,.int .u8 c),(10,.pointer (some ⟨g0,0,none⟩)),(13,.pointer (some ⟨gq,0,none⟩))]:=⟨_,rfl⟩;refine C.cut bp ?_ ?_
  ·skip;refine C.region ?_;refine L.s f fun _ d=>?_;refine L.s d fun _ d=>?_;refine L.cl d (Dt d Tryz.call17) (Gb a6 _ ay) ?_;rintro e w4 ⟨q,rfl⟩;refine ⟨_,rfl,fun _ d=>?_⟩;have a0:=q.size;replace h:=h.z q;replace g:=g.z q;clear q;refine L.s d fun _ d=>?_;refine L.va d (E.rem d rfl rfl (by omega) (Int.tmod_eq_emod_of_nonneg (by omega))) fun _ d=>?_;refine L.va d (E.conv d U5 U3 rfl (IntWalk.i64_in _ (by omega))) fun _ d=>?_;refine L.bd d (Zc1 _ _) fun _ d=>?_;refine L.buildSlice d Aa (by decide) (pL d rfl) U36 Za1 rfl rfl (Zb1 _ _) fun _ w5 g4 N d=>?_;have m:=y5o h.size N;obtain ⟨b7,q,cf,di,b0⟩:=N.al;have d8:=h.lo cf;have ch : g0 ≠ g4:=by have:=g.lt; omega
   replace h:=h.z q;replace g:=g.z q;clear N q;refine L.bd d (Z33 _ _ _ _ _) fun _ d=>?_;refine L.alloc d Aa (by decide) (z:=(.agg #[(.int .i64 0),(.bool false),(.bool false),(.int .i64 0),(.int .i64 0),(.string ⟨#[]⟩),(.slice none 0 0),(.int .i64 0),(.string ⟨#[]⟩),(.bool false),(.int .i64 0),(.bool false),(.string ⟨#[]⟩),(.slice none 0 0),(.int .i64 0),(.bool false),(.bool false),(.bool false),(.string ⟨#[]⟩),(.slice none 0 0),(.bool false),(.int .i64 0),(.slice none 0 0),(.slice none 0 0)])) (fun _=>by kernel_rfl) rfl fun _ w6 g5 N d=>?_;obtain ⟨a3,q,ao,bm,ag⟩:=N.al;have ba:=h.lo ao;have aq : g0 ≠ g5:=by have:=g.lt; omega
   have ci : g4 ≠ g5:=by have:=b7.lt; omega
   replace h:=h.z q;replace g:=g.z q;replace b7:=b7.z q;replace m:=m.k0 q;clear N q;refine L.storeR d Aa Z8 rfl rfl rfl a3 rfl rfl fun _ w7 d aw r=>?_;have ac:=r.size;replace h:=h.trans r (B6 (by omega));replace g:=g.kn r;replace b7:=b7.kn r;replace m:=Ai m r a3 (by decide);replace a3:=aw;clear r;exact wpList_nil (jK bp (by rw [bb]; exact ⟨g5,[(filterS a6,b % 3)],some ⟨g4,0,none⟩,1,rfl,by omega,by omega,h,g,a3,m,d.sub (sx (sx (sx sn)))⟩))
  intro _ w4 hj;rw [bb] at hj;clear bb bp;obtain ⟨gq,l,Aq,cq,hl,d4,dy,h,g,n,m,d⟩:=hj
  try clear f
  replace n : Blk w4 gq 39 #[.int .i64 8,.bool false,.bool false,.int .i64 0,.int .i64 (b % 7 + 1),.string em,.slice none 0 0,.int .i64 0,.string em,.bool false,.int .i64 0,.bool false,.string em,.slice none 0 0,.int .i64 0,.bool false,.bool false,.bool false,.string em,.slice none 0 0,.bool false,.int .i64 0,.slice Aq l.length cq,.slice none 0 0]:=n;have df : g0 ≠ gq:=fun e=>d4 e.symm;have d3 : l.length = 1:=by rw [hl]; rfl
  obtain ⟨b2,af⟩ : ∃ J : Act → World → Prop,J = fun a W=>∃ (l2 : List (ByteArray × Int)) (A2 : Option Addr) (c2 : Nat),l2 = sub2 c l ∧ Kept [] w W ∧ Blk W g0 39 Dg ∧ Blk W gq 39 (({ kind:=8,id:=b % 7 + 1,subs:=l2 } : Pk).cells { s0 with ua:=A2,uc:=c2 }) ∧ Fresh w W 79 2 A2 l2.length c2 (subCells l2) ∧ Fr 130 a [(3,.int .u8 c),(10,.pointer (some ⟨g0,0,none⟩)),(13,.pointer (some ⟨gq,0,none⟩))]:=⟨_,rfl⟩;refine C.cut b2 ?_ ?_
  ·skip;refine C.sk fun _ k2=>?_;refine L.s d fun _ j=>?_;refine L.va j (E.rem j rfl rfl (by omega) (Int.tmod_eq_emod_of_nonneg (by omega))) fun _ j=>?_;refine pe j k2 fun _ j=>?_;refine C.sp j (fun h8 j=>?_) (fun h8 j=>?_)
   ·have ab:=dk w4 1;refine R.bT (S:=fun _=>True) (by kernel_rfl) (by kernel_rfl) trivial fun ht=>?_;obtain ⟨w5,bl⟩ : ∃ W,W = w4.drewN 1:=⟨_,rfl⟩;rw [← bl] at ab ⊢;clear bl;have b0:=ab.size;replace h:=h.z ab;replace g:=g.z ab;replace n:=n.z ab;replace m:=m.k0 ab;clear ab;refine rs [0,2,4] j fun _ i=>?_;refine R.u 5 i rfl ht trivial (fun W hW=>(E.rem i rfl rfl (by omega) (Int.tmod_eq_emod_of_nonneg (by omega)))) fun _ i=>?_;refine R.u 6 i rfl ht trivial (fun W hW=>(E.conv i U5 U3 rfl (IntWalk.i64_in _ (by omega)))) fun _ i=>?_;refine R.two 1 3 (by kernel_rfl) ?_ ?_
    ·skip;refine O.val i rfl rfl (by decide) Aa (by exact E.ld i U36 (n)) trivial fun _ o=>?_;refine R.on 3 ?_;refine O.call o rfl rfl (by decide) Aa (Dt o Tryz.call17) (Gb c _ hc) ?_;rintro e w6 ⟨q,rfl⟩;refine ⟨_,rfl,trivial,fun _ o=>?_⟩;have ag:=q.size;replace h:=h.z q;replace g:=g.z q;replace n:=n.z q;replace m:=m.k0 q;clear q;refine R.u 7 o rfl ht trivial (fun W hW=>(E.build o (pL o rfl) (Zc1 _ _))) fun _ o=>?_;refine R.on 8 ?_;refine O.buildSlice o rfl Aa (by decide) (pL o rfl) U36 Za1 rfl rfl (Zb1 _ _) (fun _ _=>trivial) fun _ w7 g6 N bc o=>?_;clear bc;obtain ⟨ai,q,ap,bn,ac⟩:=N.al;have bj:=h.lo ap;have ar : g0 ≠ g6:=by have:=g.lt; omega
     have au : gq ≠ g6:=by have:=n.lt; omega
     replace h:=h.z q;replace g:=g.z q;replace n:=n.z q;replace m:=m.k0 q;clear N q;refine R.on 9 ?_;refine O.append o rfl Aa (by decide) U36 Zb rfl rfl rfl rfl m.own (ai.slN (size:=2) rfl) (by intro u hu; simp at hu; rcases hu with rfl | rfl <;> rfl) (by unfold maxLen; omega) (by omega) fun _ w8 A8 c8 AP=>?_;have b1:=AP.kept.size;have a8:=AP.grow m h;have a7:=n.kept AP.kept (Bc m.own n (by decide));have v:=g.kept AP.kept (Bc m.own g (by decide));have aa:=AP.next m h.size
     refine ⟨trivial,fun o=>?_⟩;clear ai h m n g;have h:=a8;have m:=aa;have n:=a7;have g:=v;clear a8 aa a7 v AP;refine rs [10] o fun _ o=>?_;refine R.on 11 ?_;refine OT.store o rfl Aa Z6 rfl rfl rfl n (by (simp [Value.cells]; done)) fun _ w9 o b9 y=>?_;have bo:=y.size;replace h:=h.trans y (B6 (by omega));replace g:=g.kn y;replace m:=Ai m y n (by decide);replace n:=b9;simp only [Value.cells,z1,z2,z3,Nat.reduceAdd,Nat.zero_add] at n;clear y;exact R.done (by kernel_rfl) (jK b2 (by rw [af]; exact ⟨l ++ [(filterS c,c % 2)],A8,c8,by unfold sub2; rw [if_pos (by assumption)],h,g,by rw [Pk.cells,List.length_append]; exact n,by rw [Jd,List.length_append]; exact m,o.sub (sx (sx (sx sn)))⟩))
    skip;refine O.call i rfl rfl (by decide) Aa (Dt i Tryz.call17) (Gb c _ hc) ?_;rintro e w6 ⟨q,rfl⟩;refine ⟨_,rfl,trivial,fun _ i=>?_⟩;have ag:=q.size;replace h:=h.z q;replace g:=g.z q;replace n:=n.z q;replace m:=m.k0 q;clear q;refine R.u 7 i rfl ht trivial (fun W hW=>(E.build i (pL i rfl) (Zc1 _ _))) fun _ i=>?_;refine R.two 1 8 (by kernel_rfl) ?_ ?_
    ·skip;refine O.val i rfl rfl (by decide) Aa (by exact E.ld i U36 (n)) trivial fun _ o=>?_;refine R.on 8 ?_;refine O.buildSlice o rfl Aa (by decide) (pL o rfl) U36 Za1 rfl rfl (Zb1 _ _) (fun _ _=>trivial) fun _ w7 g6 N bc o=>?_;clear bc;obtain ⟨ai,q,ap,bn,ac⟩:=N.al;have bj:=h.lo ap;have ar : g0 ≠ g6:=by have:=g.lt; omega
     have au : gq ≠ g6:=by have:=n.lt; omega
     replace h:=h.z q;replace g:=g.z q;replace n:=n.z q;replace m:=m.k0 q;clear N q;refine R.on 9 ?_;refine O.append o rfl Aa (by decide) U36 Zb rfl rfl rfl rfl m.own (ai.slN (size:=2) rfl) (by intro u hu; simp at hu; rcases hu with rfl | rfl <;> rfl) (by unfold maxLen; omega) (by omega) fun _ w8 A8 c8 AP=>?_;have b1:=AP.kept.size;have a8:=AP.grow m h;have a7:=n.kept AP.kept (Bc m.own n (by decide));have v:=g.kept AP.kept (Bc m.own g (by decide));have aa:=AP.next m h.size
     refine ⟨trivial,fun o=>?_⟩;clear ai h m n g;have h:=a8;have m:=aa;have n:=a7;have g:=v;clear a8 aa a7 v AP;refine rs [10] o fun _ o=>?_;refine R.on 11 ?_;refine OT.store o rfl Aa Z6 rfl rfl rfl n (by (simp [Value.cells]; done)) fun _ w9 o b9 y=>?_;have bo:=y.size;replace h:=h.trans y (B6 (by omega));replace g:=g.kn y;replace m:=Ai m y n (by decide);replace n:=b9;simp only [Value.cells,z1,z2,z3,Nat.reduceAdd,Nat.zero_add] at n;clear y;exact R.done (by kernel_rfl) (jK b2 (by rw [af]; exact ⟨l ++ [(filterS c,c % 2)],A8,c8,by unfold sub2; rw [if_pos (by assumption)],h,g,by rw [Pk.cells,List.length_append]; exact n,by rw [Jd,List.length_append]; exact m,o.sub (sx (sx (sx sn)))⟩))
    skip;refine O.buildSlice i rfl Aa (by decide) (pL i rfl) U36 Za1 rfl rfl (Zb1 _ _) (fun _ _=>trivial) fun _ w7 g6 N bc i=>?_;clear bc;obtain ⟨ai,q,ap,bn,ac⟩:=N.al;have bj:=h.lo ap;have ar : g0 ≠ g6:=by have:=g.lt; omega
    have au : gq ≠ g6:=by have:=n.lt; omega
    replace h:=h.z q;replace g:=g.z q;replace n:=n.z q;replace m:=m.k0 q;clear N q;refine R.on 1 ?_;refine O.val i rfl rfl (by decide) Aa (by exact E.ld i U36 (n)) trivial fun _ i=>?_;refine R.on 9 ?_;refine O.append i rfl Aa (by decide) U36 Zb rfl rfl rfl rfl m.own (ai.slN (size:=2) rfl) (by intro u hu; simp at hu; rcases hu with rfl | rfl <;> rfl) (by unfold maxLen; omega) (by omega) fun _ w8 A8 c8 AP=>?_;have b1:=AP.kept.size;have a8:=AP.grow m h;have a7:=n.kept AP.kept (Bc m.own n (by decide));have v:=g.kept AP.kept (Bc m.own g (by decide));have aa:=AP.next m h.size
    refine ⟨trivial,fun i=>?_⟩;clear ai h m n g;have h:=a8;have m:=aa;have n:=a7;have g:=v;clear a8 aa a7 v AP;refine rs [10] i fun _ i=>?_;refine R.on 11 ?_;refine OT.store i rfl Aa Z6 rfl rfl rfl n (by (simp [Value.cells]; done)) fun _ w9 i b9 y=>?_;have bo:=y.size;replace h:=h.trans y (B6 (by omega));replace g:=g.kn y;replace m:=Ai m y n (by decide);replace n:=b9;simp only [Value.cells,z1,z2,z3,Nat.reduceAdd,Nat.zero_add] at n;clear y;exact R.done (by kernel_rfl) (jK b2 (by rw [af]; exact ⟨l ++ [(filterS c,c % 2)],A8,c8,by unfold sub2; rw [if_pos (by assumption)],h,g,by rw [Pk.cells,List.length_append]; exact n,by rw [Jd,List.length_append]; exact m,i.sub (sx (sx (sx sn)))⟩))
   exact wp_skip (jK b2 (by rw [af]; exact ⟨l,Aq,cq,by unfold sub2; rw [if_neg (by assumption)],h,g,n,m,j.sub (sx (sx (sx sn)))⟩))
  intro _ w5 hj;rw [af] at hj;clear af b2;obtain ⟨l2,A2,c2,bu,h,g,n,m,j⟩:=hj
  try clear d
  replace n : Blk w5 gq 39 #[.int .i64 8,.bool false,.bool false,.int .i64 0,.int .i64 (b % 7 + 1),.string em,.slice none 0 0,.int .i64 0,.string em,.bool false,.int .i64 0,.bool false,.string em,.slice none 0 0,.int .i64 0,.bool false,.bool false,.bool false,.string em,.slice none 0 0,.bool false,.int .i64 0,.slice A2 l2.length c2,.slice none 0 0]:=n;have de : l2.length ≤ 2:=by rw [bu]; unfold sub2; split <;> simp [d3]
  obtain ⟨bh,ax⟩ : ∃ J : Act → World → Prop,J = fun a W=>∃ (l3 : List (ByteArray × Int)) (A3 : Option Addr) (c3 : Nat),l3 = sub3 c l2 ∧ Kept [] w W ∧ Blk W g0 39 Dg ∧ Blk W gq 39 (({ kind:=8,id:=b % 7 + 1,subs:=l3 } : Pk).cells { s0 with ua:=A3,uc:=c3 }) ∧ Fresh w W 79 2 A3 l3.length c3 (subCells l3) ∧ Fr 130 a [(10,.pointer (some ⟨g0,0,none⟩)),(13,.pointer (some ⟨gq,0,none⟩))]:=⟨_,rfl⟩;refine C.cut bh ?_ ?_
  ·skip;refine C.sk fun _ k2=>?_;refine L.s j fun _ d=>?_;refine L.va d (E.rem d rfl rfl (by omega) (Int.tmod_eq_emod_of_nonneg (by omega))) fun _ d=>?_;refine pe d k2 fun _ d=>?_;refine C.sp d (fun h9 d=>?_) (fun h9 d=>?_)
   ·refine C.region ?_;refine L.s d fun _ i=>?_;refine L.s i fun _ i=>?_;refine L.bd i (Zc1 _ _) fun _ i=>?_;refine L.buildSlice i Aa (by decide) (pL i rfl) U36 Za1 rfl rfl (Zb1 _ _) fun _ w6 g5 N i=>?_;obtain ⟨a3,q,ao,bm,ag⟩:=N.al;have ba:=h.lo ao;have aq : g0 ≠ g5:=by have:=g.lt; omega
    have cj : gq ≠ g5:=by have:=n.lt; omega
    replace h:=h.z q;replace g:=g.z q;replace n:=n.z q;replace m:=m.k0 q;clear N q;refine L.append i Aa (by decide) U36 Zb rfl rfl rfl rfl m.own (a3.slN (size:=2) rfl) (by intro u hu; simp at hu; rcases hu with rfl | rfl <;> rfl) (by unfold maxLen; omega) (by omega) fun _ w7 A7 c7 AP i=>?_;have ac:=AP.kept.size;have a8:=AP.grow m h;have a7:=n.kept AP.kept (Bc m.own n (by decide));have v:=g.kept AP.kept (Bc m.own g (by decide));have aa:=AP.next m h.size
    clear a3 h m n g;have h:=a8;have m:=aa;have n:=a7;have g:=v;clear a8 aa a7 v AP;refine L.s i fun _ i=>?_;refine L.store i Aa Z6 rfl rfl rfl n (by (simp [Value.cells]; done)) fun _ w8 i bs ad=>?_;have b1:=ad.size;replace h:=h.trans ad (B6 (by omega));replace g:=g.kn ad;replace m:=Ai m ad n (by decide);replace n:=bs;simp only [Value.cells,z1,z2,z3,Nat.reduceAdd,Nat.zero_add] at n;clear ad;exact wpList_nil (jK bh (by rw [ax]; exact ⟨l2 ++ [(⟨#[97,35]⟩,1)],A7,c7,by unfold sub3; rw [if_pos (by assumption)],h,g,by rw [Pk.cells,List.length_append]; exact n,by rw [Jd,List.length_append]; exact m,i.sub (sx (sx sn))⟩))
   exact wp_skip (jK bh (by rw [ax]; exact ⟨l2,A2,c2,by unfold sub3; rw [if_neg (by assumption)],h,g,n,m,d.sub (sx (sx sn))⟩))
  intro _ w6 hj;rw [ax] at hj;clear ax bh;obtain ⟨l3,A3,c3,cb,h,g,n,m,d⟩:=hj
  try clear j
  refine C.sk fun _ k2=>?_;refine L.s d fun _ d=>?_;refine L.storeR d Aa Z8 rfl rfl rfl g rfl rfl fun _ w7 d aw r=>?_;have ac:=r.size;replace h:=h.trans r (B6 (by omega));replace n:=n.kn r;replace m:=Ai m r g (by decide);replace g:=aw;clear r;refine wn k2 (wp_ret ?_); (try simp only [xt,xb]); refine C.retC d rfl rfl g U39 rfl Z8 ?_;exact ⟨{ s0 with ua:=A3,uc:=c3 },by rw [Wj hm,← hl,← bu,← cb],h,by rw [Wj hm,← hl,← bu,← cb]; exact ⟨⟨Bs.nil _ _ _ _,Bs.nil _ _ _ _,Bs.nil _ _ _ _,Cs.oO m.own (by simp),Cs.nil _ _ _ _ _⟩,(fun b_ h_=>⟨m.lo b_ h_,Hn m.own h_ (by simp)⟩),.inr rfl⟩⟩
 refine C.cF f rfl ?_;refine pr f fun _ f=>?_;refine C.sp f (fun ct f=>?_) (fun ct f=>?_)
 ·refine C.sk fun _ k2=>?_;refine L.s f fun _ d=>?_;refine L.s d fun _ d=>?_;refine L.cl d (Dt d Tryz.call17) (Gb a6 _ ay) ?_;rintro e w4 ⟨q,rfl⟩;refine ⟨_,rfl,fun _ d=>?_⟩;have a0:=q.size;replace h:=h.z q;replace g:=g.z q;clear q;refine L.bd d (Z53 _) fun _ d=>?_;refine L.s d fun _ d=>?_;refine L.cl d (Dt d Tryz.call17) (Gb c _ hc) ?_;rintro e w5 ⟨q,rfl⟩;refine ⟨_,rfl,fun _ d=>?_⟩;have b0:=q.size;replace h:=h.z q;replace g:=g.z q;clear q;refine L.bd d (Z53 _) fun _ d=>?_;refine L.buildSlice d Aa (by decide) (pL d rfl) U36 Za1 rfl rfl (Z23 _ _ _ _) fun _ w6 g5 N d=>?_;obtain ⟨a3,q,ao,bm,ag⟩:=N.al;have ba:=h.lo ao;have aq : g0 ≠ g5:=by have:=g.lt; omega
  replace h:=h.z q;replace g:=g.z q;clear N q;refine L.s d fun _ d=>?_;refine L.va d (E.rem d rfl rfl (by omega) (Int.tmod_eq_emod_of_nonneg (by omega))) fun _ d=>?_;refine L.va d (E.add d rfl rfl (IntWalk.u8_in _ (by omega))) fun _ d=>?_;refine L.va d (E.slLhi d U36 Z4 rfl rfl (by omega) (by omega) ) fun _ d=>?_;refine L.bd d (Z33 _ _ _ _ _) fun _ d=>?_;refine L.storeR d Aa Z8 rfl rfl rfl g rfl rfl fun _ w7 d aw r=>?_;have ac:=r.size;replace h:=h.trans r (B6 (by omega));replace a3:=a3.kn r;replace g:=aw;clear r;refine wn k2 (wp_ret ?_); (try simp only [xt,xb]); refine C.retC d rfl rfl g U39 rfl Z8 ?_;refine ⟨{ s0 with ua:=some ⟨g5,0,none⟩,uc:=2 },?_,h,?_⟩
  ·rw [Wk (by assumption)]; unfold Pk.cells; simp only [y1l]; rfl
  rw [Wk (by assumption)]; exact ⟨⟨Bs.nil _ _ _ _,Bs.nil _ _ _ _,Bs.nil _ _ _ _,Cs.of_sl (y5n a3) (x0m a3 (by simp)),Cs.nil _ _ _ _ _⟩,(fun b_ h_=>⟨by injection h_ with h_; subst h_; exact ba,x0m a3 (by simp) b_ h_⟩),.inr rfl⟩
 refine pr f fun _ f=>?_;refine C.sp f (fun cu f=>?_) (fun cu f=>?_)
 ·refine C.sk fun _ k2=>?_;refine L.s f fun _ d=>?_;refine L.bd d (Z81 _ _) fun _ d=>?_;refine L.storeR d Aa Z8 rfl rfl rfl g rfl rfl fun _ w4 d a9 p=>?_;have a0:=p.size;replace h:=h.trans p (B6 (by omega));replace g:=a9;clear p;refine wn k2 (wp_ret ?_); (try simp only [xt,xb]); refine C.retC d rfl rfl g U39 rfl Z8 ?_;exact ⟨s0,by rw [x8c (by assumption)]; rfl,h,by rw [x8c (by assumption)]; exact ⟨⟨Bs.nil _ _ _ _,Bs.nil _ _ _ _,Bs.nil _ _ _ _,Cs.nil _ _ _ _ _,Cs.nil _ _ _ _ _⟩,(fun b_ h_=>by cases h_),.inr rfl⟩⟩
 refine pr f fun _ f=>?_;refine C.sp f (fun cv f=>?_) (fun cv f=>?_)
 ·refine C.sk fun _ k2=>?_;refine L.s f fun _ d=>?_;refine L.bd d (Z81 _ _) fun _ d=>?_;refine L.storeR d Aa Z8 rfl rfl rfl g rfl rfl fun _ w4 d a9 p=>?_;have a0:=p.size;replace h:=h.trans p (B6 (by omega));replace g:=a9;clear p;refine wn k2 (wp_ret ?_); (try simp only [xt,xb]); refine C.retC d rfl rfl g U39 rfl Z8 ?_;exact ⟨s0,by rw [x8d (by assumption)]; rfl,h,by rw [x8d (by assumption)]; exact ⟨⟨Bs.nil _ _ _ _,Bs.nil _ _ _ _,Bs.nil _ _ _ _,Cs.nil _ _ _ _ _,Cs.nil _ _ _ _ _⟩,(fun b_ h_=>by cases h_),.inr rfl⟩⟩
 refine pr f fun _ f=>?_;refine C.sp f (fun cw f=>?_) (fun cw f=>?_)
 ·refine C.sk fun _ k2=>?_;refine L.s f fun _ d=>?_;refine L.bd d (Z81 _ _) fun _ d=>?_;refine L.storeR d Aa Z8 rfl rfl rfl g rfl rfl fun _ w4 d a9 p=>?_;have a0:=p.size;replace h:=h.trans p (B6 (by omega));replace g:=a9;clear p;refine wn k2 (wp_ret ?_); (try simp only [xt,xb]); refine C.retC d rfl rfl g U39 rfl Z8 ?_;exact ⟨s0,by rw [x8e (by assumption)]; rfl,h,by rw [x8e (by assumption)]; exact ⟨⟨Bs.nil _ _ _ _,Bs.nil _ _ _ _,Bs.nil _ _ _ _,Cs.nil _ _ _ _ _,Cs.nil _ _ _ _ _⟩,(fun b_ h_=>by cases h_),.inr rfl⟩⟩
 refine pr f fun _ f=>?_;refine C.sp f (fun cy f=>?_) (fun cy f=>?_)
 ·refine C.sk fun _ k2=>?_;refine L.s f fun _ d=>?_;refine L.va d (E.rem d rfl rfl (by omega) (Int.tmod_eq_emod_of_nonneg (by omega))) fun _ d=>?_;refine L.va d (E.conv d U5 U3 rfl (IntWalk.i64_in _ (by omega))) fun _ d=>?_;refine L.s d fun _ d=>?_;refine L.bd d (Z81 _ _) fun _ d=>?_;refine L.storeR d Aa Z8 rfl rfl rfl g rfl rfl fun _ w4 d a9 p=>?_;have a0:=p.size;replace h:=h.trans p (B6 (by omega));replace g:=a9;clear p;refine wn k2 (wp_ret ?_); (try simp only [xt,xb]); refine C.retC d rfl rfl g U39 rfl Z8 ?_;exact ⟨s0,by rw [x8f (by assumption)]; rfl,h,by rw [x8f (by assumption)]; exact ⟨⟨Bs.nil _ _ _ _,Bs.nil _ _ _ _,Bs.nil _ _ _ _,Cs.nil _ _ _ _ _,Cs.nil _ _ _ _ _⟩,(fun b_ h_=>by cases h_),.inr rfl⟩⟩
 refine pr f fun _ f=>?_;refine C.sp f (fun cz f=>?_) (fun cz f=>?_)
 ·refine C.sk fun _ k2=>?_;refine L.bd f (Zf _) fun _ d=>?_;refine L.storeR d Aa Z8 rfl rfl rfl g rfl rfl fun _ w4 d a9 p=>?_;have a0:=p.size;replace h:=h.trans p (B6 (by omega));replace g:=a9;clear p;refine wn k2 (wp_ret ?_); (try simp only [xt,xb]); refine C.retC d rfl rfl g U39 rfl Z8 ?_;exact ⟨s0,by rw [x8g (by assumption)]; rfl,h,by rw [x8g (by assumption)]; exact ⟨⟨Bs.nil _ _ _ _,Bs.nil _ _ _ _,Bs.nil _ _ _ _,Cs.nil _ _ _ _ _,Cs.nil _ _ _ _ _⟩,(fun b_ h_=>by cases h_),.inr rfl⟩⟩
 refine pr f fun _ f=>?_;refine C.sp f (fun d0 f=>?_) (fun d0 f=>?_)
 ·refine C.sk fun _ k2=>?_;refine L.s f fun _ d=>?_;(iterate 3 refine L.s d fun _ d=>?_);refine L.cl d (B5 Tryz.call18 (Q6 d rfl rfl rfl rfl)) (Wi a6 b c x A cx _ (SX.same (Jc h)).toSl ay hb hc) ?_;rintro e w4 ⟨q,rfl⟩;refine ⟨_,rfl,fun _ d=>?_⟩;have a0:=q.size;replace h:=h.z q;replace g:=g.z q;clear q;refine L.storeR d Aa Z8 rfl rfl rfl g rfl rfl fun _ w5 d bq ak=>?_;have b0:=ak.size;replace h:=h.trans ak (B6 (by omega));replace g:=bq;clear ak;refine wn k2 (wp_ret ?_); (try simp only [xt,xb]); refine C.retC d rfl rfl g U39 rfl Z8 ?_;exact ⟨adC b c A cx,by rw [Wl (by assumption)],h,by rw [Wl (by assumption)]; exact ⟨X9 (SX.same (Jc h)),(fun b_ h_=>by rw [y5m] at h_; cases h_),.inr (M9 _ _ _ _)⟩⟩
 refine wp_skip (k1 _ _ ?_);refine C.sk fun _ k1=>?_;refine L.bd f (Zf _) fun _ f=>?_;refine L.storeR f Aa Z8 rfl rfl rfl g rfl rfl fun _ w4 f a9 p=>?_;have a0:=p.size;replace h:=h.trans p (B6 (by omega));replace g:=a9;clear p;refine wn k1 (wp_ret ?_); (try simp only [xt,xb]); refine C.retC f rfl rfl g U39 rfl Z8 ?_;have hd : 14 ≤ k % 15:=by omega
 exact ⟨s0,by rw [x8h hd]; rfl,h,by rw [x8h hd]; exact ⟨⟨Bs.nil _ _ _ _,Bs.nil _ _ _ _,Bs.nil _ _ _ _,Cs.nil _ _ _ _ _,Cs.nil _ _ _ _ _⟩,(fun b_ h_=>by cases h_),.inr rfl⟩⟩
end Go.Proofs.YtkdeedhjkjffpaaGreat
