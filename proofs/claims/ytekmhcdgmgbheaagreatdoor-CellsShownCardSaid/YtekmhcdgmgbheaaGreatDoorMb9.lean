/- Merged by program (shrink.py): contracts and plain laws that the claim's statement uses, part 9. -/
import Derived.Test.YtekmhcdgmgbheaaGreatDoorMb8
set_option linter.all false
set_option maxRecDepth 100000
set_option maxHeartbeats 8000000

namespace Go.Proofs.YtekmhcdgmgbheaaGreatDoor
open Go.RowKit Go.Hub Go.Lib
variable {B0 : Nat}
theorem slL1 {P : Program} {a : Act} {w : World} {n : Nat} {l : FL} {dst : Option Nat} {ty : TypeId} {ps : String} {af : Array Edge} {g : Option (Nat × Bool)} {x y z : Operand} {t : TypeId} (f : Fr n a l) {e : TypeId} {A : Option Addr} {b o m c s : Nat} {i j : Int} {ki kj : IntKind} (hA : A = some ⟨b, o, none⟩) (ht : P.underlying t = some (.slice e)) (hs : (P.info? e).map (·.size) = some s) (hx : evl l x = some (.slice A m c)) (hy : evl l y = some (.int ki i)) (hz : evl l z = some (.int kj j)) (h0 : 0 ≤ i) (h1 : j = i + 1) (h2 : j ≤ c) :
    (execOp a.eval ⟨dst,.slice t x (some y) (some z) none,ty,ps,af,g⟩).run P w = .ok (.value (.slice (some ⟨b,o + i.toNat * s,none⟩) 1 (c - i.toNat))) w:=by
  rw [E.slL f ht hs hx hy hz h0 (by omega) h2,if_neg (by omega),show j.toNat - i.toNat = 1 by omega,hA];simp only [Option.map_some,Addr.add]
  split
  · next h=>rw [h,Nat.add_zero]
  rfl
theorem sl_at1 {w : World} {A : Option Addr} {l : List Cp} {b off k : Nat} {p : Cp} (h : Sl w A l.length 10 (pcells l)) (hA : A = some ⟨b,off,none⟩) (hd : l[k]? = some p) : Sl w (some ⟨b,off + (k : Int).toNat * 10,none⟩) 1 10 (pcells [p]):=by
  have hk:=(List.getElem?_eq_some_iff.1 hd).1;obtain ⟨b',off',e,hb,-⟩:=h.2 (by omega);rw [hA] at e
  injection e with e
  injection e with e1 e2
  subst e1 e2;refine ⟨rfl,fun _=>⟨b,_,rfl,hb,fun j u hu=>?_⟩⟩;exact ce_row h hA hd j u (by simpa [pcells] using hu)
section
variable {t : Tm} {w : World} {l : List Ce} {u n : ByteArray} {c : Ce}
theorem getC_at (ha : AscT l) (hc : c ∈ l) (hg : c.gone = false) : getC l c.topic = some c:=by
  obtain ⟨k,hx⟩:=List.getElem?_of_mem hc;have hk:=(List.getElem?_eq_some_iff.1 hx).1
  have hf : l.find? (fun d=>decide (d.topic = c.topic)) = some c:=by
    rw [List.find?_eq_some_iff_getElem];refine ⟨by simp,k,hk,(List.getElem?_eq_some_iff.1 hx).2,fun j hj=>?_⟩;simp only [Bool.not_eq_true',decide_eq_false_iff_not];intro e;have h1:=ha j k (l[j]'(by omega)) c hj (List.getElem?_eq_getElem _) hx;rw [e] at h1;exact ltB_irrefl _ h1
  unfold getC;rw [hf];simp [hg]
theorem getC_some (h : getC l n = some c) : c ∈ l ∧ c.topic = n ∧ c.gone = false:=by
  unfold getC at h
  cases hf : l.find? (fun d=>decide (d.topic = n)) with
  | none=>rw [hf] at h; cases h
  | some d=>
    rw [hf] at h;have h1:=List.find?_some hf;have h2:=List.mem_of_find?_eq_some hf;simp only at h
    split at h
    · cases h
    next hg=>
    injection h with h
    subst h;exact ⟨h2,by simpa using h1,by simpa using hg⟩
theorem getY_any (t : Tm) (n : ByteArray) (x : Ce) (w : World) (TO : TmOk w t) (TS : TmSm t) (hAs : Asc t.cel) (hx : getC t.ta.cel n = some x) : Calls Tryz.prog 13 #[.agg (tcell t).toArray,.string n] w (fun e w'=>Kept [] w w' ∧ ∃ A k,e = .returned (.tuple #[.agg (pcell ⟨x,A,k⟩).toArray,.bool true]) ∧ PayOk w' ⟨x,A,k⟩):=by
  refine (Get_any t n w TO TS hAs).mono ?_;rintro e w' ⟨k,h | ⟨c,A,j,hc,rfl,hp⟩⟩
  · rw [hx] at h; cases h.1
  rw [hx] at hc
  injection hc with hc
  subst hc;exact ⟨k,A,j,rfl,hp⟩
def qz : Cp:=⟨⟨⟨0,0,0⟩,⟨0,0,0⟩,⟨#[]⟩,[],0,false⟩,none,0⟩
theorem get_q (t : Tm) (n : ByteArray) (w : World) (TO : TmOk w t) (TS : TmSm t) (hAs : Asc t.cel) : Calls Tryz.prog 13 #[.agg (tcell t).toArray,.string n] w (fun e w'=>Kept [] w w' ∧ ∃ q : Cp,e = .returned (.tuple #[.agg (pcell q).toArray,.bool (getC t.ta.cel n).isSome])):=by
  refine (Get_any t n w TO TS hAs).mono ?_;rintro e w' ⟨k,⟨h,rfl⟩ | ⟨c,A,j,hc,rfl,hp⟩⟩
  · exact ⟨k,qz,by rw [h]; rfl⟩
  exact ⟨k,⟨c,A,j⟩,by rw [hc]; rfl⟩
theorem sfilterN (b : Int) (fb : ByteArray) (w : World) (h : fb = p10.getD (b % 10).toNat ⟨#[]⟩) (hb : 0 ≤ b ∧ b < 256) : Calls Tryz.prog 17 #[.int .u8 b] w (fun e w'=>Kept [] w w' ∧ e = .returned (.string fb)):=by
  rw [h];exact sfilter_any b w hb.1 hb.2
theorem stopicN (i : Nat) (nm : ByteArray) (w : World) (h : p7[i]? = some nm) : Calls Tryz.prog 9 #[.int .u8 i] w (fun e w'=>Kept [] w w' ∧ e = .returned (.string nm)):=by
  have hi : i < 7:=(List.getElem?_eq_some_iff.1 h).1
  have e : p7.getD (((i : Nat) : Int) % 7).toNat ⟨#[]⟩ = nm:=by
    rw [show (((i : Nat) : Int) % 7).toNat = i by omega,List.getD_eq_getElem?_getD,h]
    rfl
  rw [← e];exact stopic_any i w (by omega) (by omega)
theorem inv_p7 {n m : Nat} (I : TInv B0 n m w t) : ∀ c ∈ t.ta.cel,c.topic ∈ p7:=fun c hc=>by
  obtain ⟨p,hp,rfl⟩:=List.mem_map.1 hc
  exact (I.ce p hp).2
theorem lo_len {lo : List Cp} (h : lo.map Cp.x = t.ta.cel.filter (showB u)) : lo.length ≤ t.cel.length:=by
  have e:=congrArg List.length h;have h2:=List.length_filter_le (showB u) t.ta.cel;simp only [Tm.ta,List.length_map] at e h2;omega
theorem lo_cnt {lo : List Cp} (h : lo.map Cp.x = l.filter (showB u)) : lo.length = (l.filter (showB u)).length:=by
  have e:=congrArg List.length h
  simpa using e
theorem lo_mem {lo : List Cp} {p : Cp} (h : lo.map Cp.x = t.ta.cel.filter (showB u)) (hp : p ∈ lo) : p.x ∈ t.ta.cel ∧ p.x.gone = false:=by
  have h1 : p.x ∈ lo.map Cp.x:=List.mem_map_of_mem hp;rw [h] at h1;obtain ⟨h2,h3⟩:=List.mem_filter.1 h1;unfold showB at h3;simp only [Bool.and_eq_true,Bool.not_eq_true'] at h3;exact ⟨h2,h3.1⟩
theorem asc_filter (f : Ce → Bool) : ∀ l : List Ce, AscT l → AscT (l.filter f)
  | [],h=>h
  | a :: r,h=>by
    obtain ⟨h1,h2⟩:=ascT_cons.1 h
    have ih:=asc_filter f r h2
    rw [List.filter_cons]
    split
    · exact ascT_cons.2 ⟨fun b hb=>h1 b (List.mem_filter.1 hb).1,ih⟩
    exact ih
theorem lo_asc {lo : List Cp} {i k : Nat} {p q : Cp} (ha : AscT l) (h : lo.map Cp.x = l.filter (showB u)) (hi : i < k) (hp : lo[i]? = some p) (hq : lo[k]? = some q) : ltB p.x.topic q.x.topic:=by
  have h2:=asc_filter (showB u) l ha;rw [← h] at h2;exact h2 i k p.x q.x hi (by simp [hp]) (by simp [hq])
def cntP (l : List Ce) (u : ByteArray) (k : Nat) : Nat:=((p7.take k).filter fun n=>(getC l n).isSome && matchB u n).length
theorem cntP_le (l : List Ce) (u : ByteArray) (k : Nat) : cntP l u k ≤ k:=Nat.le_trans (List.length_filter_le _ _) (by rw [List.length_take]; omega)
theorem cnt_take {k : Nat} (h : p7[k]? = some n) : cntP l u (k + 1) = cntP l u k + if (getC l n).isSome && matchB u n then 1 else 0:=by
  unfold cntP;rw [List.take_succ,h,List.filter_append,List.length_append]
  congr 1
  simp only [Option.toList_some,List.filter_cons,List.filter_nil]
  split <;> rfl
theorem cnt_y {k : Nat} (h : p7[k]? = some n) (h1 : (getC l n).isSome = true) (h2 : matchB u n = true) : ((cntP l u (k + 1) : Nat) : Int) = (cntP l u k : Nat) + 1:=by
  rw [cnt_take h,h1,h2]
  simp
theorem cnt_n {k : Nat} (h : p7[k]? = some n) (h1 : (getC l n).isSome = false ∨ matchB u n = false) : cntP l u (k + 1) = cntP l u k:=by
  rw [cnt_take h]
  rcases h1 with h1 | h1 <;> simp [h1]
theorem asc_nd : ∀ l : List Ce, AscT l → (l.map Ce.topic).Nodup
  | [],_=>by simp
  | a :: r,h=>by
    obtain ⟨h1,h2⟩:=ascT_cons.1 h
    rw [List.map_cons,List.nodup_cons]
    refine ⟨fun hm=>?_,asc_nd r h2⟩
    obtain ⟨b,hb,e⟩:=List.mem_map.1 hm
    have:=h1 b hb
    rw [e] at this
    exact ltB_irrefl _ this
theorem nd_le {M : Type} [DecidableEq M] : ∀ (l m : List M), l.Nodup → (∀ x ∈ l, x ∈ m) → l.length ≤ m.length
  | [],_,_,_=>Nat.zero_le _
  | a :: r,m,h,hs=>by
    obtain ⟨h1,h2⟩:=List.nodup_cons.1 h
    have ha:=hs a (by simp)
    have:=nd_le r (m.erase a) h2 (fun x hx=>(List.mem_erase_of_ne (fun e=>h1 (by rw [← e]; exact hx))).2 (hs x (by simp [hx])))
    rw [List.length_erase_of_mem ha] at this
    have:=List.length_pos_of_mem ha
    rw [List.length_cons]
    omega
theorem p7_nd : p7.Nodup:=by decide +kernel
theorem cnt_all (ha : AscT l) (ht : ∀ c ∈ l,c.topic ∈ p7) : cntP l u 7 = (l.filter (showB u)).length:=by
  unfold cntP;rw [show p7.take 7 = p7 from rfl];have hL : ((l.filter (showB u)).map Ce.topic).Nodup:=List.Pairwise.sublist (List.filter_sublist.map _) (asc_nd l ha);have hM : (p7.filter fun n=>(getC l n).isSome && matchB u n).Nodup:=List.Pairwise.sublist List.filter_sublist p7_nd
  have e1:=nd_le _ _ hM (fun x hx=>by
    obtain ⟨_,h2⟩:=List.mem_filter.1 hx;simp only [Bool.and_eq_true] at h2;obtain ⟨c,hc⟩:=Option.isSome_iff_exists.1 h2.1;obtain ⟨h3,h4,h5⟩:=getC_some hc
    exact List.mem_map.2 ⟨c,List.mem_filter.2 ⟨h3,by unfold showB; rw [h5,h4,h2.2]; rfl⟩,h4⟩ : ∀ x ∈ p7.filter fun n=>(getC l n).isSome && matchB u n,x ∈ (l.filter (showB u)).map Ce.topic)
  have e2:=nd_le _ _ hL (fun x hx=>by
    obtain ⟨c,hc,rfl⟩:=List.mem_map.1 hx;obtain ⟨h3,h4⟩:=List.mem_filter.1 hc;unfold showB at h4;simp only [Bool.and_eq_true,Bool.not_eq_true'] at h4
    exact List.mem_filter.2 ⟨ht c h3,by rw [getC_at ha h3 h4.1,h4.2]; rfl⟩ : ∀ x ∈ (l.filter (showB u)).map Ce.topic,x ∈ p7.filter fun n=>(getC l n).isSome && matchB u n)
  rw [List.length_map] at e1 e2;omega
end
theorem shownL_walk (l : List De) (A : Option Addr) (c : Nat) (b : Int) (w : World) (G : Glob w) (DL : Sl w A l.length 4 (l.flatMap decell)) (hE : ∀ d ∈ l,((0 ≤ d.what ∧ d.what < 256) ∧ (0 ≤ d.who ∧ d.who < 256) ∧ (0 ≤ d.k ∧ d.k < 256)) ∧ PayS w ⟨dum d.x,d.A,d.c⟩) (hb : 0 ≤ b ∧ b < 256) : Calls Tryz.prog 5 #[.slice A l.length c,.int .u8 b] w (fun e w'=>Kept [] w w' ∧ e = .returned (.bool true)):=by
 have HK : Kept [] w w:=Kept.refl [] w;refine C.enter Tryz.func5 rfl Tryz.ntmps5 rfl ?_;intro a1 f;have f : Fr 106 a1 [(0,.slice A l.length c),(1,.int .u8 b)]:=f;refine C.sk fun _ k1=>?_;refine L.ag f fun _ f=>?_;refine wn k1 ?_;have f:=f.pk [0,1,4];refine wp_seq_k fun _ k1=>C.sk fun _ k2=>?_;refine L.cl f (run_call Tryz.call6 (args0 f)) (known_any _ (G.kept HK)) ?_;rintro e w1 ⟨q1,rfl⟩;refine ⟨_,rfl,fun _ f=>?_⟩;have szw1:=q1.size;replace HK:=HK.z q1;clear q1;refine L.va f (E.not f rfl) fun _ f=>?_;refine wn k2 ?_;have f:=f.pk [0,1,4,15];refine C.condF f rfl ?_;refine wp_skip (k1 _ _ ?_);have f:=f.pk [0,1,4];refine wp_seq_k fun _ k1=>C.sk fun _ k2=>?_;refine L.mv f fun _ f=>?_;refine L.cl f (rc1 f Tryz.call7) (few_any l A c w1 (DL.kept HK)) ?_;rintro e w2 ⟨q1,bf,rfl,hbf⟩;refine ⟨_,rfl,fun _ f=>?_⟩;have szw2:=q1.size;replace HK:=HK.z q1;clear q1;refine L.va f (E.not f rfl) fun _ f=>?_;refine wn k2 ?_;have f:=f.pk [0,1,4,18];refine f.splitNB 18 rfl (fun h0 f=>?_) (fun h0 f=>?_)
 ·have h18:=h0;refine C.condT f rfl ?_;refine C.sk fun _ k2=>?_;refine L.ag f fun _ f84=>?_;have f84:=f84.pk [0,1,4];refine wn k2 (wp_ret ?_); (try simp only [xt,xb]); refine C.ret f84 rfl rfl ?_;exact ⟨HK,rfl⟩
 have h18:=h0;refine C.condF f rfl ?_;refine wp_skip (k1 _ _ ?_);have f:=f.pk [0,1,4];refine C.sk fun _ k1=>?_;refine L.mv f fun _ f=>?_;have DK:=dk_of DL hE (hbf (by assumption));refine L.cl f (rc1 f Tryz.call8) (story_any (B0:=w.heap.size) l A c w2 HK.size (G.kept HK) (DK.kept HK) (hbf (by assumption)).1) ?_;rintro e w3 ⟨q1,gT,T,rfl,hT3,BT,TA,hgT,honT⟩;refine ⟨_,rfl,fun _ f=>?_⟩;have szw3:=q1.size;replace HK:=HK.z q1;clear q1;have HK0:=HK;replace HK:=Kept.refl [] w3;have GS:=G.kept HK0;clear G;obtain ⟨t0,t1,t2,rfl⟩:=three_of hT3;have I0:=TA t0 (by simp);have I1:=TA t1 (by simp);have I2:=TA t2 (by simp);refine L.va f (E.indexA f (by rfl) U33 Zp rfl rfl (by omega) (by omega)) fun _ f=>?_;refine L.va f (E.loadR f U40 rfl Zp rfl ((t_rowI BT (i:=2) (t:=t2) rfl)) rfl) fun _ f=>?_;refine L.alloc f wantedN (by decide) (z:=(.agg #[(.slice none 0 0),(.slice none 0 0),(.slice none 0 0),(.slice none 0 0)])) (fun _=>by kernel_rfl) rfl fun _ w4 g3 N f=>?_;obtain ⟨Bg3,q1,log3,ltg3,szw4⟩:=N.al;have frg3:=HK.lo log3;have negT_g3 : gT ≠ g3:=by have:=BT.lt; omega
 replace HK:=HK.z q1;replace BT:=BT.z q1;clear N q1;refine L.storeR f wantedN Zp rfl rfl rfl Bg3 rfl rfl fun _ w5 f NB5 ks5=>?_;have szw5:=ks5.size;replace HK:=HK.trans ks5 (by intro x hx hlt; simp at hx; subst hx; (exfalso; omega));replace BT:=BT.kn ks5;replace Bg3:=NB5;clear ks5;refine wn k1 ?_;have f:=f.pk [1,4,5];refine wp_seq_k fun _ k1=>?_;have S2:=inv_sm I2.1;have T2t:=inv_tp I2.1;obtain ⟨fb,hfb⟩ : ∃ s,s = p10.getD (b % 10).toNat ⟨#[]⟩:=⟨_,rfl⟩;have hfs : fb.size ≤ 10:=by rw [hfb]; exact p10_size _
 have hd6 : Kept [] w5 (w5.drewN 1):=(Kept.refl _ _).drewN 1;refine R.begin (S:=fun W=>(Kept [] w3 W) ∧ (Blk W g3 40 (tcell t2).toArray)) (by kernel_rfl) ⟨HK.z hd6,Bg3.z hd6⟩ ?_;obtain ⟨w6,hww6⟩ : ∃ W,W = w5.drewN 1:=⟨_,rfl⟩;rw [← hww6] at hd6 ⊢;clear hww6;have szw6:=hd6.size;replace HK:=HK.z hd6;replace Bg3:=Bg3.z hd6;clear hd6;refine R.t 0 f rfl ⟨HK,Bg3⟩ (fun W hW=>(E.loadB f U40 rfl Zp rfl (hW.2) rfl)) fun _ f=>?_;refine R.p 1 f rfl ⟨HK,Bg3⟩ (E.move f rfl) fun _ f=>?_;refine R.cl 2 f rfl (rc1 f Tryz.call17) (sfilterN b fb _ hfb hb) ?_;rintro e w7 ⟨q1,rfl⟩;have szw7:=q1.size;replace HK:=HK.z q1;replace Bg3:=Bg3.z q1;refine ⟨_,rfl,⟨HK,Bg3⟩,fun _ f=>?_⟩;clear q1;refine R.cl 3 f rfl (rc2 f Tryz.call16) (Match_any t2 fb w7 (I2.1.ok.kept HK) S2 (GS.kept HK) (by omega) T2t) ?_;rintro e w8 ⟨q1,M,m,lo,rfl,hlo,F,PL⟩;have szw8:=q1.size;replace HK:=HK.z q1;replace Bg3:=Bg3.z q1;refine ⟨_,rfl,⟨HK,Bg3⟩,fun _ f=>?_⟩;clear q1;refine R.p 4 f rfl ⟨HK,Bg3⟩ (E.assign f rfl) fun _ f=>?_;refine R.done (by kernel_rfl) (k1 _ _ ?_);have f:=f.pk [1,4,5,6];refine wp_seq_k fun _ k1=>?_;refine wp_seq_k fun _ k2=>?_;have TO:=I2.1.ok.kept HK;have GS:=GS.kept HK;replace HK0:=HK0.z HK;replace HK:=Kept.refl [] w8;have SL:=F.sl;have hcap:=fr_cap F;have hll:=lo_len hlo;have hlS:=S2.c;refine C.region ?_;refine L.ag f fun _ f=>?_;refine wn k2 ?_;have f:=f.pk [1,4,5,6,7];refine wp_block ?_
 refine C.loop (fun gk a W=>∃ k : Nat,k + gk = lo.length ∧ Kept [] w8 W ∧ Blk W g3 40 (tcell t2).toArray ∧ Fr 106 a [(1,.int .u8 b),(5,.pointer (some ⟨g3,0,none⟩)),(6,.slice M lo.length m),(7,.int .i64 k)]) (lo.length) ?_ ?_
 ·exact ⟨0,by omega,HK,Bg3,f.sub (sx (sx (sx (sx sn))))⟩
 intro gk11 _ w9 hI KL10 hKL10;obtain ⟨k,hk,HK,Bg3,f84⟩:=hI
 try clear f
 refine wp_seq_k fun _ k2=>C.sk fun _ k3=>?_;refine L.mv f84 fun _ f=>?_;refine L.mv f fun _ f=>?_;refine L.va f (E.lenL f U38 rfl) fun _ f=>?_;refine L.va f (E.lss f rfl rfl) fun _ f=>?_;refine wn k3 ?_;have f:=f.pk [1,5,6,7,27,28,29,30];refine f.splitD 30 rfl (fun h1 f=>?_) (fun h1 f=>?_)
 ·obtain ⟨p,hx⟩ : ∃ p,lo[k]? = some p:=⟨lo[k]'(by omega),List.getElem?_eq_getElem _⟩;obtain ⟨b0,off,hA⟩:=Sl.addr SL (by omega);have hpm:=List.mem_of_getElem? hx;obtain ⟨hpc,hpg⟩:=lo_mem hlo hpm;refine C.condT f rfl ?_;refine wp_skip (k2 _ _ ?_);have f84:=f.pk [1,5,6,7,27,28,29,30];refine wp_seq_k fun _ k2=>?_;refine wp_block ?_;obtain ⟨J11,hJ11⟩ : ∃ J : Act → World → Prop,J = fun a W=>∃ (gB : Nat) (A1 : Option Addr) (c1 : Nat),Kept [] w8 W ∧ Blk W g3 40 (tcell t2).toArray ∧ Blk W gB 48 (pcell ⟨p.x,A1,c1⟩).toArray ∧ PayOk W ⟨p.x,A1,c1⟩ ∧ Fr 106 a [(1,.int .u8 b),(5,.pointer (some ⟨g3,0,none⟩)),(6,.slice M lo.length m),(7,.int .i64 k),(8,.pointer (some ⟨gB,0,none⟩)),(9,.bool true)]:=⟨_,rfl⟩;refine C.cut J11 ?_ ?_
  ·skip;have hd10 : Kept [] w9 (w9.drewN 1):=(Kept.refl _ _).drewN 1;refine R.begin (S:=fun _=>True) (by kernel_rfl) trivial ?_;obtain ⟨w10,hww10⟩ : ∃ W,W = w9.drewN 1:=⟨_,rfl⟩;rw [← hww10] at hd10 ⊢;clear hww10;have szw10:=hd10.size;replace HK:=HK.z hd10;replace Bg3:=Bg3.z hd10;clear hd10;refine R.p 1 f84 rfl trivial (E.move f84 rfl) fun _ f85=>?_;refine R.p 2 f85 rfl trivial (E.move f85 rfl) fun _ f85=>?_;refine R.p 3 f85 rfl trivial (E.indexA f85 (by assumption) U38 Zh rfl rfl (by omega) (by omega)) fun _ f85=>?_;refine R.p 4 f85 rfl trivial (E.fa 6 f85 U48 rfl Z8) fun _ f85=>?_;refine R.three 0 5 10 (by kernel_rfl) ?_ ?_ ?_
   ·skip;refine O.val f85 rfl rfl (by decide) wantedN (by exact E.loadB f85 U40 rfl Zp rfl (Bg3) rfl) trivial fun _ f86=>?_;refine R.two 5 10 (by kernel_rfl) ?_ ?_
    ·skip;refine O.val f86 rfl rfl (by decide) wantedN (by exact E.load f86 U9 rfl rfl ((ce_row (SL.kept HK) hA hx 6 _ rfl))) trivial fun _ f87=>?_;refine R.two 6 10 (by kernel_rfl) ?_ ?_
     ·skip;refine O.call f87 rfl rfl (by decide) wantedN (rc2 f87 Tryz.call13) (getY_any t2 p.x.topic p.x w10 (TO.kept HK) S2 I2.2 (getC_at (asc_of I2.2) hpc hpg)) ?_;rintro e w11 ⟨q1,A1,c1,rfl,PQ⟩;refine ⟨_,rfl,trivial,fun _ f88=>?_⟩;have szw11:=q1.size;replace HK:=HK.z q1;replace Bg3:=Bg3.z q1;clear q1;refine R.p 7 f88 rfl trivial (E.move f88 rfl) fun _ f88=>?_;refine R.p 8 f88 rfl trivial (E.extract f88 rfl rfl) fun _ f88=>?_;refine R.p 9 f88 rfl trivial (E.extract f88 rfl rfl) fun _ f88=>?_;refine R.on 10 ?_;refine O.alloc f88 rfl wantedN (by decide) (z:=(.agg #[(.int .i64 0),(.int .i64 0),(.int .i64 0),(.int .i64 0),(.int .i64 0),(.int .i64 0),(.string ⟨#[]⟩),(.slice none 0 0),(.int .i64 0),(.bool false)])) (fun _=>by kernel_rfl) rfl (fun _ _=>trivial) fun _ w12 g11 N hSn f88=>?_;clear hSn;obtain ⟨Bg11,q1,log11,ltg11,szw12⟩:=N.al;have frg11:=HK.lo log11;have neg3_g11 : g3 ≠ g11:=by have:=Bg3.lt; omega
      replace HK:=HK.z q1;replace Bg3:=Bg3.z q1;replace PQ:=PQ.kept q1;clear N q1;refine R.on 11 ?_;refine OT.storeR f88 rfl wantedN Zh rfl rfl rfl Bg11 rfl rfl fun _ w13 f88 NB13 ks13=>?_;have szw13:=ks13.size;replace HK:=HK.trans ks13 (by intro x hx hlt; simp at hx; subst hx; (exfalso; omega));replace Bg3:=Bg3.kn ks13;replace PQ:=PQ.kept1 ks13 Bg11 (by decide);replace Bg11:=NB13;clear ks13;refine R.p 12 f88 rfl trivial (E.assign f88 rfl) fun _ f88=>?_;exact R.done (by kernel_rfl) (jK J11 (by rw [hJ11]; exact ⟨g11,A1,c1,HK,Bg3,Bg11,PQ,f88.sub (sx (sx (sx (sx (sx (sx sn))))))⟩))
     skip;refine O.alloc f87 rfl wantedN (by decide) (z:=(.agg #[(.int .i64 0),(.int .i64 0),(.int .i64 0),(.int .i64 0),(.int .i64 0),(.int .i64 0),(.string ⟨#[]⟩),(.slice none 0 0),(.int .i64 0),(.bool false)])) (fun _=>by kernel_rfl) rfl (fun _ _=>trivial) fun _ w11 g10 N hSn f87=>?_;clear hSn;obtain ⟨Bg10,q1,log10,ltg10,szw11⟩:=N.al;have frg10:=HK.lo log10;have neg3_g10 : g3 ≠ g10:=by have:=Bg3.lt; omega
     replace HK:=HK.z q1;replace Bg3:=Bg3.z q1;clear N q1;refine R.on 6 ?_;refine O.call f87 rfl rfl (by decide) wantedN (rc2 f87 Tryz.call13) (getY_any t2 p.x.topic p.x w11 (TO.kept HK) S2 I2.2 (getC_at (asc_of I2.2) hpc hpg)) ?_;rintro e w12 ⟨q1,A1,c1,rfl,PQ⟩;refine ⟨_,rfl,trivial,fun _ f87=>?_⟩;have szw12:=q1.size;replace HK:=HK.z q1;replace Bg3:=Bg3.z q1;replace Bg10:=Bg10.z q1;clear q1;refine R.p 7 f87 rfl trivial (E.move f87 rfl) fun _ f87=>?_;refine R.p 8 f87 rfl trivial (E.extract f87 rfl rfl) fun _ f87=>?_;refine R.p 9 f87 rfl trivial (E.extract f87 rfl rfl) fun _ f87=>?_;refine R.on 11 ?_;refine OT.storeR f87 rfl wantedN Zh rfl rfl rfl Bg10 rfl rfl fun _ w13 f87 NB13 ks13=>?_;have szw13:=ks13.size;replace HK:=HK.trans ks13 (by intro x hx hlt; simp at hx; subst hx; (exfalso; omega));replace Bg3:=Bg3.kn ks13;replace PQ:=PQ.kept1 ks13 Bg10 (by decide);replace Bg10:=NB13;clear ks13;refine R.p 12 f87 rfl trivial (E.assign f87 rfl) fun _ f87=>?_;exact R.done (by kernel_rfl) (jK J11 (by rw [hJ11]; exact ⟨g10,A1,c1,HK,Bg3,Bg10,PQ,f87.sub (sx (sx (sx (sx (sx (sx sn))))))⟩))
    skip;refine O.alloc f86 rfl wantedN (by decide) (z:=(.agg #[(.int .i64 0),(.int .i64 0),(.int .i64 0),(.int .i64 0),(.int .i64 0),(.int .i64 0),(.string ⟨#[]⟩),(.slice none 0 0),(.int .i64 0),(.bool false)])) (fun _=>by kernel_rfl) rfl (fun _ _=>trivial) fun _ w11 g10 N hSn f86=>?_;clear hSn;obtain ⟨Bg10,q1,log10,ltg10,szw11⟩:=N.al;have frg10:=HK.lo log10;have neg3_g10 : g3 ≠ g10:=by have:=Bg3.lt; omega
    replace HK:=HK.z q1;replace Bg3:=Bg3.z q1;clear N q1;refine R.on 5 ?_;refine O.val f86 rfl rfl (by decide) wantedN (by exact E.load f86 U9 rfl rfl ((ce_row (SL.kept HK) hA hx 6 _ rfl))) trivial fun _ f86=>?_;refine R.on 6 ?_;refine O.call f86 rfl rfl (by decide) wantedN (rc2 f86 Tryz.call13) (getY_any t2 p.x.topic p.x w11 (TO.kept HK) S2 I2.2 (getC_at (asc_of I2.2) hpc hpg)) ?_;rintro e w12 ⟨q1,A1,c1,rfl,PQ⟩;refine ⟨_,rfl,trivial,fun _ f86=>?_⟩;have szw12:=q1.size;replace HK:=HK.z q1;replace Bg3:=Bg3.z q1;replace Bg10:=Bg10.z q1;clear q1;refine R.p 7 f86 rfl trivial (E.move f86 rfl) fun _ f86=>?_;refine R.p 8 f86 rfl trivial (E.extract f86 rfl rfl) fun _ f86=>?_;refine R.p 9 f86 rfl trivial (E.extract f86 rfl rfl) fun _ f86=>?_;refine R.on 11 ?_;refine OT.storeR f86 rfl wantedN Zh rfl rfl rfl Bg10 rfl rfl fun _ w13 f86 NB13 ks13=>?_;have szw13:=ks13.size;replace HK:=HK.trans ks13 (by intro x hx hlt; simp at hx; subst hx; (exfalso; omega));replace Bg3:=Bg3.kn ks13;replace PQ:=PQ.kept1 ks13 Bg10 (by decide);replace Bg10:=NB13;clear ks13;refine R.p 12 f86 rfl trivial (E.assign f86 rfl) fun _ f86=>?_;exact R.done (by kernel_rfl) (jK J11 (by rw [hJ11]; exact ⟨g10,A1,c1,HK,Bg3,Bg10,PQ,f86.sub (sx (sx (sx (sx (sx (sx sn))))))⟩))
   ·skip;refine O.val f85 rfl rfl (by decide) wantedN (by exact E.load f85 U9 rfl rfl ((ce_row (SL.kept HK) hA hx 6 _ rfl))) trivial fun _ f86=>?_;refine R.two 0 10 (by kernel_rfl) ?_ ?_
    ·skip;refine O.val f86 rfl rfl (by decide) wantedN (by exact E.loadB f86 U40 rfl Zp rfl (Bg3) rfl) trivial fun _ f87=>?_;refine R.two 6 10 (by kernel_rfl) ?_ ?_
     ·skip;refine O.call f87 rfl rfl (by decide) wantedN (rc2 f87 Tryz.call13) (getY_any t2 p.x.topic p.x w10 (TO.kept HK) S2 I2.2 (getC_at (asc_of I2.2) hpc hpg)) ?_;rintro e w11 ⟨q1,A1,c1,rfl,PQ⟩;refine ⟨_,rfl,trivial,fun _ f88=>?_⟩;have szw11:=q1.size;replace HK:=HK.z q1;replace Bg3:=Bg3.z q1;clear q1;refine R.p 7 f88 rfl trivial (E.move f88 rfl) fun _ f88=>?_;refine R.p 8 f88 rfl trivial (E.extract f88 rfl rfl) fun _ f88=>?_;refine R.p 9 f88 rfl trivial (E.extract f88 rfl rfl) fun _ f88=>?_;refine R.on 10 ?_;refine O.alloc f88 rfl wantedN (by decide) (z:=(.agg #[(.int .i64 0),(.int .i64 0),(.int .i64 0),(.int .i64 0),(.int .i64 0),(.int .i64 0),(.string ⟨#[]⟩),(.slice none 0 0),(.int .i64 0),(.bool false)])) (fun _=>by kernel_rfl) rfl (fun _ _=>trivial) fun _ w12 g11 N hSn f88=>?_;clear hSn;obtain ⟨Bg11,q1,log11,ltg11,szw12⟩:=N.al;have frg11:=HK.lo log11;have neg3_g11 : g3 ≠ g11:=by have:=Bg3.lt; omega
      replace HK:=HK.z q1;replace Bg3:=Bg3.z q1;replace PQ:=PQ.kept q1;clear N q1;refine R.on 11 ?_;refine OT.storeR f88 rfl wantedN Zh rfl rfl rfl Bg11 rfl rfl fun _ w13 f88 NB13 ks13=>?_;have szw13:=ks13.size;replace HK:=HK.trans ks13 (by intro x hx hlt; simp at hx; subst hx; (exfalso; omega));replace Bg3:=Bg3.kn ks13;replace PQ:=PQ.kept1 ks13 Bg11 (by decide);replace Bg11:=NB13;clear ks13;refine R.p 12 f88 rfl trivial (E.assign f88 rfl) fun _ f88=>?_;exact R.done (by kernel_rfl) (jK J11 (by rw [hJ11]; exact ⟨g11,A1,c1,HK,Bg3,Bg11,PQ,f88.sub (sx (sx (sx (sx (sx (sx sn))))))⟩))
     skip;refine O.alloc f87 rfl wantedN (by decide) (z:=(.agg #[(.int .i64 0),(.int .i64 0),(.int .i64 0),(.int .i64 0),(.int .i64 0),(.int .i64 0),(.string ⟨#[]⟩),(.slice none 0 0),(.int .i64 0),(.bool false)])) (fun _=>by kernel_rfl) rfl (fun _ _=>trivial) fun _ w11 g10 N hSn f87=>?_;clear hSn;obtain ⟨Bg10,q1,log10,ltg10,szw11⟩:=N.al;have frg10:=HK.lo log10;have neg3_g10 : g3 ≠ g10:=by have:=Bg3.lt; omega
     replace HK:=HK.z q1;replace Bg3:=Bg3.z q1;clear N q1;refine R.on 6 ?_;refine O.call f87 rfl rfl (by decide) wantedN (rc2 f87 Tryz.call13) (getY_any t2 p.x.topic p.x w11 (TO.kept HK) S2 I2.2 (getC_at (asc_of I2.2) hpc hpg)) ?_;rintro e w12 ⟨q1,A1,c1,rfl,PQ⟩;refine ⟨_,rfl,trivial,fun _ f87=>?_⟩;have szw12:=q1.size;replace HK:=HK.z q1;replace Bg3:=Bg3.z q1;replace Bg10:=Bg10.z q1;clear q1;refine R.p 7 f87 rfl trivial (E.move f87 rfl) fun _ f87=>?_;refine R.p 8 f87 rfl trivial (E.extract f87 rfl rfl) fun _ f87=>?_;refine R.p 9 f87 rfl trivial (E.extract f87 rfl rfl) fun _ f87=>?_;refine R.on 11 ?_;refine OT.storeR f87 rfl wantedN Zh rfl rfl rfl Bg10 rfl rfl fun _ w13 f87 NB13 ks13=>?_;have szw13:=ks13.size;replace HK:=HK.trans ks13 (by intro x hx hlt; simp at hx; subst hx; (exfalso; omega));replace Bg3:=Bg3.kn ks13;replace PQ:=PQ.kept1 ks13 Bg10 (by decide);replace Bg10:=NB13;clear ks13;refine R.p 12 f87 rfl trivial (E.assign f87 rfl) fun _ f87=>?_;exact R.done (by kernel_rfl) (jK J11 (by rw [hJ11]; exact ⟨g10,A1,c1,HK,Bg3,Bg10,PQ,f87.sub (sx (sx (sx (sx (sx (sx sn))))))⟩))
    skip;refine O.alloc f86 rfl wantedN (by decide) (z:=(.agg #[(.int .i64 0),(.int .i64 0),(.int .i64 0),(.int .i64 0),(.int .i64 0),(.int .i64 0),(.string ⟨#[]⟩),(.slice none 0 0),(.int .i64 0),(.bool false)])) (fun _=>by kernel_rfl) rfl (fun _ _=>trivial) fun _ w11 g10 N hSn f86=>?_;clear hSn;obtain ⟨Bg10,q1,log10,ltg10,szw11⟩:=N.al;have frg10:=HK.lo log10;have neg3_g10 : g3 ≠ g10:=by have:=Bg3.lt; omega
    replace HK:=HK.z q1;replace Bg3:=Bg3.z q1;clear N q1;refine R.on 0 ?_;refine O.val f86 rfl rfl (by decide) wantedN (by exact E.loadB f86 U40 rfl Zp rfl (Bg3) rfl) trivial fun _ f86=>?_;refine R.on 6 ?_;refine O.call f86 rfl rfl (by decide) wantedN (rc2 f86 Tryz.call13) (getY_any t2 p.x.topic p.x w11 (TO.kept HK) S2 I2.2 (getC_at (asc_of I2.2) hpc hpg)) ?_;rintro e w12 ⟨q1,A1,c1,rfl,PQ⟩;refine ⟨_,rfl,trivial,fun _ f86=>?_⟩;have szw12:=q1.size;replace HK:=HK.z q1;replace Bg3:=Bg3.z q1;replace Bg10:=Bg10.z q1;clear q1;refine R.p 7 f86 rfl trivial (E.move f86 rfl) fun _ f86=>?_;refine R.p 8 f86 rfl trivial (E.extract f86 rfl rfl) fun _ f86=>?_;refine R.p 9 f86 rfl trivial (E.extract f86 rfl rfl) fun _ f86=>?_;refine R.on 11 ?_;refine OT.storeR f86 rfl wantedN Zh rfl rfl rfl Bg10 rfl rfl fun _ w13 f86 NB13 ks13=>?_;have szw13:=ks13.size;replace HK:=HK.trans ks13 (by intro x hx hlt; simp at hx; subst hx; (exfalso; omega));replace Bg3:=Bg3.kn ks13;replace PQ:=PQ.kept1 ks13 Bg10 (by decide);replace Bg10:=NB13;clear ks13;refine R.p 12 f86 rfl trivial (E.assign f86 rfl) fun _ f86=>?_;exact R.done (by kernel_rfl) (jK J11 (by rw [hJ11]; exact ⟨g10,A1,c1,HK,Bg3,Bg10,PQ,f86.sub (sx (sx (sx (sx (sx (sx sn))))))⟩))
   skip;refine O.alloc f85 rfl wantedN (by decide) (z:=(.agg #[(.int .i64 0),(.int .i64 0),(.int .i64 0),(.int .i64 0),(.int .i64 0),(.int .i64 0),(.string ⟨#[]⟩),(.slice none 0 0),(.int .i64 0),(.bool false)])) (fun _=>by kernel_rfl) rfl (fun _ _=>trivial) fun _ w11 g10 N hSn f85=>?_;clear hSn;obtain ⟨Bg10,q1,log10,ltg10,szw11⟩:=N.al;have frg10:=HK.lo log10;have neg3_g10 : g3 ≠ g10:=by have:=Bg3.lt; omega
   replace HK:=HK.z q1;replace Bg3:=Bg3.z q1;clear N q1;refine R.two 0 5 (by kernel_rfl) ?_ ?_
   ·skip;refine O.val f85 rfl rfl (by decide) wantedN (by exact E.loadB f85 U40 rfl Zp rfl (Bg3) rfl) trivial fun _ f86=>?_;refine R.on 5 ?_;refine O.val f86 rfl rfl (by decide) wantedN (by exact E.load f86 U9 rfl rfl ((ce_row (SL.kept HK) hA hx 6 _ rfl))) trivial fun _ f86=>?_;refine R.on 6 ?_;refine O.call f86 rfl rfl (by decide) wantedN (rc2 f86 Tryz.call13) (getY_any t2 p.x.topic p.x w11 (TO.kept HK) S2 I2.2 (getC_at (asc_of I2.2) hpc hpg)) ?_;rintro e w12 ⟨q1,A1,c1,rfl,PQ⟩;refine ⟨_,rfl,trivial,fun _ f86=>?_⟩;have szw12:=q1.size;replace HK:=HK.z q1;replace Bg3:=Bg3.z q1;replace Bg10:=Bg10.z q1;clear q1;refine R.p 7 f86 rfl trivial (E.move f86 rfl) fun _ f86=>?_;refine R.p 8 f86 rfl trivial (E.extract f86 rfl rfl) fun _ f86=>?_;refine R.p 9 f86 rfl trivial (E.extract f86 rfl rfl) fun _ f86=>?_;refine R.on 11 ?_;refine OT.storeR f86 rfl wantedN Zh rfl rfl rfl Bg10 rfl rfl fun _ w13 f86 NB13 ks13=>?_;have szw13:=ks13.size;replace HK:=HK.trans ks13 (by intro x hx hlt; simp at hx; subst hx; (exfalso; omega));replace Bg3:=Bg3.kn ks13;replace PQ:=PQ.kept1 ks13 Bg10 (by decide);replace Bg10:=NB13;clear ks13;refine R.p 12 f86 rfl trivial (E.assign f86 rfl) fun _ f86=>?_;exact R.done (by kernel_rfl) (jK J11 (by rw [hJ11]; exact ⟨g10,A1,c1,HK,Bg3,Bg10,PQ,f86.sub (sx (sx (sx (sx (sx (sx sn))))))⟩))
   skip;refine O.val f85 rfl rfl (by decide) wantedN (by exact E.load f85 U9 rfl rfl ((ce_row (SL.kept HK) hA hx 6 _ rfl))) trivial fun _ f85=>?_;refine R.on 0 ?_;refine O.val f85 rfl rfl (by decide) wantedN (by exact E.loadB f85 U40 rfl Zp rfl (Bg3) rfl) trivial fun _ f85=>?_;refine R.on 6 ?_;refine O.call f85 rfl rfl (by decide) wantedN (rc2 f85 Tryz.call13) (getY_any t2 p.x.topic p.x w11 (TO.kept HK) S2 I2.2 (getC_at (asc_of I2.2) hpc hpg)) ?_;rintro e w12 ⟨q1,A1,c1,rfl,PQ⟩;refine ⟨_,rfl,trivial,fun _ f85=>?_⟩;have szw12:=q1.size;replace HK:=HK.z q1;replace Bg3:=Bg3.z q1;replace Bg10:=Bg10.z q1;clear q1;refine R.p 7 f85 rfl trivial (E.move f85 rfl) fun _ f85=>?_;refine R.p 8 f85 rfl trivial (E.extract f85 rfl rfl) fun _ f85=>?_;refine R.p 9 f85 rfl trivial (E.extract f85 rfl rfl) fun _ f85=>?_;refine R.on 11 ?_;refine OT.storeR f85 rfl wantedN Zh rfl rfl rfl Bg10 rfl rfl fun _ w13 f85 NB13 ks13=>?_;have szw13:=ks13.size;replace HK:=HK.trans ks13 (by intro x hx hlt; simp at hx; subst hx; (exfalso; omega));replace Bg3:=Bg3.kn ks13;replace PQ:=PQ.kept1 ks13 Bg10 (by decide);replace Bg10:=NB13;clear ks13;refine R.p 12 f85 rfl trivial (E.assign f85 rfl) fun _ f85=>?_;exact R.done (by kernel_rfl) (jK J11 (by rw [hJ11]; exact ⟨g10,A1,c1,HK,Bg3,Bg10,PQ,f85.sub (sx (sx (sx (sx (sx (sx sn))))))⟩))
  intro _ w10 hj;rw [hJ11] at hj;clear hJ11 J11;obtain ⟨gB,A1,c1,HK,Bg3,BgB,PQ,f85⟩:=hj
  try clear f84
  refine wp_seq_k fun _ k3=>?_;have hd11 : Kept [] w10 (w10.drewN 1):=(Kept.refl _ _).drewN 1;refine R.begin (S:=fun W=>(Kept [] w8 W) ∧ (Blk W g3 40 (tcell t2).toArray) ∧ (Blk W gB 48 (pcell ⟨p.x,A1,c1⟩).toArray)) (by kernel_rfl) ⟨HK.z hd11,Bg3.z hd11,BgB.z hd11⟩ ?_;obtain ⟨w11,hww11⟩ : ∃ W,W = w10.drewN 1:=⟨_,rfl⟩;rw [← hww11] at hd11 ⊢;clear hww11;have szw11:=hd11.size;replace HK:=HK.z hd11;replace Bg3:=Bg3.z hd11;replace BgB:=BgB.z hd11;replace PQ:=PQ.kept hd11;clear hd11;refine R.p 0 f85 rfl ⟨HK,Bg3,BgB⟩ (E.move f85 rfl) fun _ f84=>?_;refine R.p 1 f84 rfl ⟨HK,Bg3,BgB⟩ (E.not f84 rfl) fun _ f84=>?_;refine R.p 2 f84 rfl ⟨HK,Bg3,BgB⟩ (E.move f84 rfl) fun _ f84=>?_;refine R.t 3 f84 rfl ⟨HK,Bg3,BgB⟩ (fun W hW=>(E.loadB f84 U48 rfl Zh rfl (hW.2.2) rfl)) (hw:=f84.y) fun _ f84=>?_;refine R.p 5 f84 rfl ⟨HK,Bg3,BgB⟩ (E.move f84 rfl) (hw:=f84.y) fun _ f84=>?_;refine R.p 6 f84 rfl ⟨HK,Bg3,BgB⟩ (E.move f84 rfl) (hw:=f84.y) fun _ f84=>?_;refine R.p 7 f84 rfl ⟨HK,Bg3,BgB⟩ (E.move f84 rfl) (hw:=f84.y) fun _ f84=>?_;refine R.p 8 f84 rfl ⟨HK,Bg3,BgB⟩ (E.add f84 rfl rfl (IntWalk.i64_in _ (by omega))) (hw:=f84.y) fun _ f84=>?_;refine R.p 9 f84 rfl ⟨HK,Bg3,BgB⟩ (slL1 f84 hA U38 Zh rfl rfl rfl (by omega) rfl (by omega)) (hw:=f84.y) fun _ f84=>?_;refine R.on 4 ?_
  refine O.buildSlice f84 rfl f84.y (by decide) (parts1 f84 rfl) U38 Zr rfl rfl (Zs _ _ _ _ _ _ _ _ _ _) (fun _ hk=>⟨HK.z hk,Bg3.z hk,BgB.z hk⟩) fun _ w12 g11 N hSn f84=>?_;clear hSn;obtain ⟨Bg11,q1,log11,ltg11,szw12⟩:=N.al;have frg11:=HK.lo log11;have neg3_g11 : g3 ≠ g11:=by have:=Bg3.lt; omega
  have negB_g11 : gB ≠ g11:=by have:=BgB.lt; omega
  replace HK:=HK.z q1;replace Bg3:=Bg3.z q1;replace BgB:=BgB.z q1;replace PQ:=PQ.kept q1;clear N q1;refine R.call 10 f84 rfl rfl (by decide) (by kernel_rfl) f84.y (rc2 f84 Tryz.call15) (cells_yes [⟨p.x,A1,c1⟩] [p] (some ⟨g11,0,none⟩) (some ⟨b0,off + (k : Int).toNat * 10,none⟩) 1 (m - (k : Int).toNat) w12 (sl_b1 (cell:=pcell) ⟨p.x,A1,c1⟩ Bg11) (sl_at1 (SL.kept HK) hA hx) (fun x h=>by rw [List.mem_singleton.1 h]; exact PQ.s) (fun x h=>by rw [List.mem_singleton.1 h]; exact (PL p hpm).s.kept HK) (by simp) rfl) ?_;rintro e w13 ⟨q1,rfl⟩;have szw13:=q1.size;replace HK:=HK.z q1;replace Bg3:=Bg3.z q1;replace BgB:=BgB.z q1;replace PQ:=PQ.kept q1;replace Bg11:=Bg11.z q1;refine ⟨_,rfl,⟨HK,Bg3,BgB⟩,fun _ f84=>?_⟩;clear q1;refine R.p 11 f84 rfl ⟨HK,Bg3,BgB⟩ (E.not f84 rfl) (hw:=f84.y) fun _ f84=>?_;refine R.p 12 f84 rfl ⟨HK,Bg3,BgB⟩ (E.pickF f84 rfl rfl) fun _ f84=>?_;refine R.p 13 f84 rfl ⟨HK,Bg3,BgB⟩ (E.move f84 rfl) fun _ f84=>?_;refine R.p 14 f84 rfl ⟨HK,Bg3,BgB⟩ (E.move f84 rfl) (hw:=f84.y) fun _ f84=>?_;refine R.p 15 f84 rfl ⟨HK,Bg3,BgB⟩ (E.move f84 rfl) (hw:=f84.y) fun _ f84=>?_;refine R.p 16 f84 rfl ⟨HK,Bg3,BgB⟩ (E.indexA f84 (by assumption) U38 Zh rfl rfl (by omega) (by omega)) (hw:=f84.y) fun _ f84=>?_;refine R.p 17 f84 rfl ⟨HK,Bg3,BgB⟩ (E.fa 9 f84 U48 rfl Zt) (hw:=f84.y) fun _ f84=>?_
  refine R.t 18 f84 rfl ⟨HK,Bg3,BgB⟩ (fun W hW=>(E.load f84 U4 rfl rfl ((ce_row (SL.kept hW.1) hA hx 9 _ rfl)))) (hw:=f84.y) fun _ f84=>?_;have f84:=f84.as (i:=61) (v':=.bool false) rfl (by rw [hpg]);refine R.p 19 f84 rfl ⟨HK,Bg3,BgB⟩ (E.pickF f84 rfl rfl) fun _ f84=>?_;refine R.p 20 f84 rfl ⟨HK,Bg3,BgB⟩ (E.move f84 rfl) fun _ f84=>?_;refine R.p 21 f84 rfl ⟨HK,Bg3,BgB⟩ (E.move f84 rfl) (hw:=f84.y) fun _ f84=>?_;refine R.p 22 f84 rfl ⟨HK,Bg3,BgB⟩ (E.gtr f84 rfl rfl) (hw:=f84.y) fun _ f84=>?_;refine R.p 23 f84 rfl ⟨HK,Bg3,BgB⟩ (E.move f84 rfl) (hw:=f84.y) fun _ f84=>?_;refine f84.splitD 66 rfl (fun h2 f84=>?_) (fun h2 f84=>?_)
  ·have h65:=h2;obtain ⟨p2,hx2⟩ : ∃ p,lo[((k : Int) - 1).toNat]? = some p:=⟨lo[((k : Int) - 1).toNat]'(by omega),List.getElem?_eq_getElem _⟩;have hlt:=lo_asc (asc_of I2.2) hlo (by omega) hx2 hx;refine R.p 24 f84 rfl ⟨HK,Bg3,BgB⟩ (E.move f84 rfl) (hw:=f84.y) fun _ f85=>?_;refine R.p 25 f85 rfl ⟨HK,Bg3,BgB⟩ (E.move f85 rfl) (hw:=f85.y) fun _ f85=>?_;refine R.p 26 f85 rfl ⟨HK,Bg3,BgB⟩ (E.sub f85 rfl rfl (IntWalk.i64_in _ (by omega))) (hw:=f85.y) fun _ f85=>?_;refine R.p 27 f85 rfl ⟨HK,Bg3,BgB⟩ (E.indexA f85 (by assumption) U38 Zh rfl rfl (by omega) (by omega)) (hw:=f85.y) fun _ f85=>?_;refine R.p 28 f85 rfl ⟨HK,Bg3,BgB⟩ (E.fa 6 f85 U48 rfl Z8) (hw:=f85.y) fun _ f85=>?_;refine R.t 29 f85 rfl ⟨HK,Bg3,BgB⟩ (fun W hW=>(E.load f85 U9 rfl rfl ((ce_rowI (SL.kept hW.1) hA hx2 6 _ rfl)))) (hw:=f85.y) fun _ f85=>?_;refine R.p 30 f85 rfl ⟨HK,Bg3,BgB⟩ (E.move f85 rfl) (hw:=f85.y) fun _ f85=>?_;refine R.p 31 f85 rfl ⟨HK,Bg3,BgB⟩ (E.move f85 rfl) (hw:=f85.y) fun _ f85=>?_;refine R.p 32 f85 rfl ⟨HK,Bg3,BgB⟩ (E.indexA f85 (by assumption) U38 Zh rfl rfl (by omega) (by omega)) (hw:=f85.y) fun _ f85=>?_;refine R.p 33 f85 rfl ⟨HK,Bg3,BgB⟩ (E.fa 6 f85 U48 rfl Z8) (hw:=f85.y) fun _ f85=>?_;refine R.t 34 f85 rfl ⟨HK,Bg3,BgB⟩ (fun W hW=>(E.load f85 U9 rfl rfl ((ce_row (SL.kept hW.1) hA hx 6 _ rfl)))) (hw:=f85.y) fun _ f85=>?_;refine R.p 35 f85 rfl ⟨HK,Bg3,BgB⟩ (E.geqS f85 rfl rfl) (hw:=f85.y) fun _ f85=>?_
   have f85:=f85.as (i:=78) (v':=.bool false) rfl (by show Value.bool (!_) = _; rw [show Op.bytesLess _ _ = true from hlt]; rfl);refine R.p 36 f85 rfl ⟨HK,Bg3,BgB⟩ (E.pickT f85 rfl rfl) (hw:=f85.y) fun _ f85=>?_;refine R.p 37 f85 rfl ⟨HK,Bg3,BgB⟩ (E.pickF f85 rfl rfl) fun _ f85=>?_;refine R.done (by kernel_rfl) (k3 _ _ ?_);have f85:=f85.pk [1,5,6,7,8,9,43,44,45,46,47,48,49,50,51,52,53,54,55,56,57,58,59,60,61,62,63,64,65,66,67,68,69,70,71,72,73,74,75,76,77,78,79,80];refine C.condF f85 rfl ?_;refine wp_skip (k2 _ _ ?_);have f85:=f85.pk [1,5,6,7,8,9,43,44,45,46,47,48,49,50,51,52,53,54,55,56,57,58,59,60,61,62,63,64,65,66,67,68,69,70,71,72,73,74,75,76,77,78,79,80];refine C.region ?_;refine L.mv f85 fun _ f85=>?_;refine L.va f85 (E.add f85 rfl rfl (IntWalk.i64_in _ (by omega))) fun _ f85=>?_;refine L.ag f85 fun _ f85=>?_;refine wpList_nil (hKL10 _ _ (gk11 - 1) ?_ ?_)
   ·omega
   exact ⟨k + 1,by omega,HK,Bg3,f85.sub (sx (sx (sx (sx sn))))⟩
  have h65:=h2;refine R.ts 24 f84 rfl ⟨HK,Bg3,BgB⟩ f84.nT fun _ f84=>?_;refine R.ts 25 f84 rfl ⟨HK,Bg3,BgB⟩ f84.nT fun _ f84=>?_;refine R.ts 26 f84 rfl ⟨HK,Bg3,BgB⟩ f84.nT fun _ f84=>?_;refine R.ts 27 f84 rfl ⟨HK,Bg3,BgB⟩ f84.nT fun _ f84=>?_;refine R.ts 28 f84 rfl ⟨HK,Bg3,BgB⟩ f84.nT fun _ f84=>?_;refine R.ts 29 f84 rfl ⟨HK,Bg3,BgB⟩ f84.nT fun _ f84=>?_;refine R.ts 30 f84 rfl ⟨HK,Bg3,BgB⟩ f84.nT fun _ f84=>?_;refine R.ts 31 f84 rfl ⟨HK,Bg3,BgB⟩ f84.nT fun _ f84=>?_;refine R.ts 32 f84 rfl ⟨HK,Bg3,BgB⟩ f84.nT fun _ f84=>?_;refine R.ts 33 f84 rfl ⟨HK,Bg3,BgB⟩ f84.nT fun _ f84=>?_;refine R.ts 34 f84 rfl ⟨HK,Bg3,BgB⟩ f84.nT fun _ f84=>?_;refine R.ts 35 f84 rfl ⟨HK,Bg3,BgB⟩ f84.nT fun _ f84=>?_;refine R.p 36 f84 rfl ⟨HK,Bg3,BgB⟩ (E.pickF f84 rfl rfl) (hw:=f84.y) fun _ f84=>?_;refine R.p 37 f84 rfl ⟨HK,Bg3,BgB⟩ (E.pickF f84 rfl rfl) fun _ f84=>?_;refine R.done (by kernel_rfl) (k3 _ _ ?_);have f84:=f84.pk [1,5,6,7,8,9,43,44,45,46,47,48,49,50,51,52,53,54,55,56,57,58,59,60,61,62,63,64,65,66,67,68,69,70,71,72,73,74,75,76,77,78,79,80];refine C.condF f84 rfl ?_;refine wp_skip (k2 _ _ ?_);have f84:=f84.pk [1,5,6,7,8,9,43,44,45,46,47,48,49,50,51,52,53,54,55,56,57,58,59,60,61,62,63,64,65,66,67,68,69,70,71,72,73,74,75,76,77,78,79,80];refine C.region ?_;refine L.mv f84 fun _ f84=>?_
  refine L.va f84 (E.add f84 rfl rfl (IntWalk.i64_in _ (by omega))) fun _ f84=>?_;refine L.ag f84 fun _ f84=>?_;refine wpList_nil (hKL10 _ _ (gk11 - 1) ?_ ?_)
  ·omega
  exact ⟨k + 1,by omega,HK,Bg3,f84.sub (sx (sx (sx (sx sn))))⟩
 have hend:=h1;refine C.condF f rfl ?_;refine wp_exit (k1 _ _ ?_);have f:=f.pk [1,5,6];refine C.sk fun _ k1=>?_;refine L.ag f fun _ f=>?_;refine wn k1 ?_;have f:=f.pk [1,5,6,10];refine wp_seq_k fun _ k1=>C.sk fun _ k2=>?_;refine L.ag f fun _ f=>?_;refine wn k2 ?_;have f:=f.pk [1,5,6,10,11];refine wp_block ?_;refine C.loop (fun gk a W=>∃ i : Nat,i + gk = 7 ∧ Kept [] w8 W ∧ Blk W g3 40 (tcell t2).toArray ∧ Fr 106 a [(1,.int .u8 b),(5,.pointer (some ⟨g3,0,none⟩)),(6,.slice M lo.length m),(10,.int .i64 ((cntP t2.ta.cel fb i : Nat) : Int)),(11,.int .u8 i)]) (7) ?_ ?_
 ·exact ⟨0,rfl,HK,Bg3,f.sub (sx (sx (sx (sx (sx sn)))))⟩
 intro gk19 _ w10 hI KL18 hKL18;obtain ⟨i,hi,HK,Bg3,f84⟩:=hI
 try clear f
 have hci:=cntP_le t2.ta.cel fb i;refine wp_seq_k fun _ k2=>C.sk fun _ k3=>?_;refine L.mv f84 fun _ f=>?_;refine L.va f (E.lss f rfl rfl) fun _ f=>?_;refine wn k3 ?_;have f:=f.pk [1,5,6,10,11,81,82];refine f.splitD 82 rfl (fun h3 f=>?_) (fun h3 f=>?_)
 ·obtain ⟨nm,hn⟩ : ∃ n,p7[i]? = some n:=⟨p7[i]'(by have h : p7.length = 7:=rfl; omega),List.getElem?_eq_getElem _⟩;refine C.condT f rfl ?_;refine wp_skip (k2 _ _ ?_);have f84:=f.pk [1,5,6,10,11,81,82];refine wp_seq_k fun _ k2=>?_;refine wp_block ?_;obtain ⟨J18,hJ18⟩ : ∃ J : Act → World → Prop,J = fun a W=>∃ bb : Bool,bb = (getC t2.ta.cel nm).isSome ∧ Kept [] w8 W ∧ Blk W g3 40 (tcell t2).toArray ∧ Fr 106 a [(1,.int .u8 b),(5,.pointer (some ⟨g3,0,none⟩)),(6,.slice M lo.length m),(10,.int .i64 ((cntP t2.ta.cel fb i : Nat) : Int)),(11,.int .u8 i),(13,.bool bb)]:=⟨_,rfl⟩;refine C.cut J18 ?_ ?_
  ·skip;have hd17 : Kept [] w10 (w10.drewN 1):=(Kept.refl _ _).drewN 1;refine R.begin (S:=fun _=>True) (by kernel_rfl) trivial ?_;obtain ⟨w11,hww11⟩ : ∃ W,W = w10.drewN 1:=⟨_,rfl⟩;rw [← hww11] at hd17 ⊢;clear hww11;have szw11:=hd17.size;replace HK:=HK.z hd17;replace Bg3:=Bg3.z hd17;clear hd17;refine R.p 1 f84 rfl trivial (E.move f84 rfl) fun _ f85=>?_;refine R.three 0 2 7 (by kernel_rfl) ?_ ?_ ?_
   ·skip;refine O.val f85 rfl rfl (by decide) wantedN (by exact E.loadB f85 U40 rfl Zp rfl (Bg3) rfl) trivial fun _ f86=>?_;refine R.two 2 7 (by kernel_rfl) ?_ ?_
    ·skip;refine O.call f86 rfl rfl (by decide) wantedN (rc1 f86 Tryz.call9) (stopicN i nm _ hn) ?_;rintro e w12 ⟨q1,rfl⟩;refine ⟨_,rfl,trivial,fun _ f87=>?_⟩;have szw12:=q1.size;replace HK:=HK.z q1;replace Bg3:=Bg3.z q1;clear q1;refine R.two 3 7 (by kernel_rfl) ?_ ?_
     ·skip;refine O.call f87 rfl rfl (by decide) wantedN (rc2 f87 Tryz.call13) (get_q t2 nm w12 (TO.kept HK) S2 I2.2) ?_;rintro e w13 ⟨q1,q,rfl⟩;refine ⟨_,rfl,trivial,fun _ f88=>?_⟩;have szw13:=q1.size;replace HK:=HK.z q1;replace Bg3:=Bg3.z q1;clear q1;refine R.p 4 f88 rfl trivial (E.move f88 rfl) fun _ f88=>?_;refine R.p 5 f88 rfl trivial (E.extract f88 rfl rfl) fun _ f88=>?_;refine R.p 6 f88 rfl trivial (E.extract f88 rfl rfl) fun _ f88=>?_;refine R.on 7 ?_;refine O.alloc f88 rfl wantedN (by decide) (z:=(.agg #[(.int .i64 0),(.int .i64 0),(.int .i64 0),(.int .i64 0),(.int .i64 0),(.int .i64 0),(.string ⟨#[]⟩),(.slice none 0 0),(.int .i64 0),(.bool false)])) (fun _=>by kernel_rfl) rfl (fun _ _=>trivial) fun _ w14 g13 N hSn f88=>?_;clear hSn;obtain ⟨Bg13,q1,log13,ltg13,szw14⟩:=N.al;have frg13:=HK.lo log13;have neg3_g13 : g3 ≠ g13:=by have:=Bg3.lt; omega
      replace HK:=HK.z q1;replace Bg3:=Bg3.z q1;clear N q1;refine R.on 8 ?_;refine OT.storeR f88 rfl wantedN Zh rfl rfl rfl Bg13 rfl rfl fun _ w15 f88 NB15 ks15=>?_;have szw15:=ks15.size;replace HK:=HK.trans ks15 (by intro x hx hlt; simp at hx; subst hx; (exfalso; omega));replace Bg3:=Bg3.kn ks15;replace Bg13:=NB15;clear ks15;refine R.p 9 f88 rfl trivial (E.assign f88 rfl) fun _ f88=>?_;exact R.done (by kernel_rfl) (jK J18 (by rw [hJ18]; exact ⟨_,rfl,HK,Bg3,f88.sub (sr rfl (sr rfl (sr rfl (sr rfl (sr rfl (sr rfl sn))))))⟩))
     skip;refine O.alloc f87 rfl wantedN (by decide) (z:=(.agg #[(.int .i64 0),(.int .i64 0),(.int .i64 0),(.int .i64 0),(.int .i64 0),(.int .i64 0),(.string ⟨#[]⟩),(.slice none 0 0),(.int .i64 0),(.bool false)])) (fun _=>by kernel_rfl) rfl (fun _ _=>trivial) fun _ w13 g12 N hSn f87=>?_;clear hSn;obtain ⟨Bg12,q1,log12,ltg12,szw13⟩:=N.al;have frg12:=HK.lo log12;have neg3_g12 : g3 ≠ g12:=by have:=Bg3.lt; omega
     replace HK:=HK.z q1;replace Bg3:=Bg3.z q1;clear N q1;refine R.on 3 ?_;refine O.call f87 rfl rfl (by decide) wantedN (rc2 f87 Tryz.call13) (get_q t2 nm w13 (TO.kept HK) S2 I2.2) ?_;rintro e w14 ⟨q1,q,rfl⟩;refine ⟨_,rfl,trivial,fun _ f87=>?_⟩;have szw14:=q1.size;replace HK:=HK.z q1;replace Bg3:=Bg3.z q1;replace Bg12:=Bg12.z q1;clear q1;refine R.p 4 f87 rfl trivial (E.move f87 rfl) fun _ f87=>?_;refine R.p 5 f87 rfl trivial (E.extract f87 rfl rfl) fun _ f87=>?_;refine R.p 6 f87 rfl trivial (E.extract f87 rfl rfl) fun _ f87=>?_;refine R.on 8 ?_;refine OT.storeR f87 rfl wantedN Zh rfl rfl rfl Bg12 rfl rfl fun _ w15 f87 NB15 ks15=>?_;have szw15:=ks15.size;replace HK:=HK.trans ks15 (by intro x hx hlt; simp at hx; subst hx; (exfalso; omega));replace Bg3:=Bg3.kn ks15;replace Bg12:=NB15;clear ks15;refine R.p 9 f87 rfl trivial (E.assign f87 rfl) fun _ f87=>?_;exact R.done (by kernel_rfl) (jK J18 (by rw [hJ18]; exact ⟨_,rfl,HK,Bg3,f87.sub (sr rfl (sr rfl (sr rfl (sr rfl (sr rfl (sr rfl sn))))))⟩))
    skip;refine O.alloc f86 rfl wantedN (by decide) (z:=(.agg #[(.int .i64 0),(.int .i64 0),(.int .i64 0),(.int .i64 0),(.int .i64 0),(.int .i64 0),(.string ⟨#[]⟩),(.slice none 0 0),(.int .i64 0),(.bool false)])) (fun _=>by kernel_rfl) rfl (fun _ _=>trivial) fun _ w12 g11 N hSn f86=>?_;clear hSn;obtain ⟨Bg11,q1,log11,ltg11,szw12⟩:=N.al;have frg11:=HK.lo log11;have neg3_g11 : g3 ≠ g11:=by have:=Bg3.lt; omega
    replace HK:=HK.z q1;replace Bg3:=Bg3.z q1;clear N q1;refine R.on 2 ?_;refine O.call f86 rfl rfl (by decide) wantedN (rc1 f86 Tryz.call9) (stopicN i nm _ hn) ?_;rintro e w13 ⟨q1,rfl⟩;refine ⟨_,rfl,trivial,fun _ f86=>?_⟩;have szw13:=q1.size;replace HK:=HK.z q1;replace Bg3:=Bg3.z q1;replace Bg11:=Bg11.z q1;clear q1;refine R.on 3 ?_;refine O.call f86 rfl rfl (by decide) wantedN (rc2 f86 Tryz.call13) (get_q t2 nm w13 (TO.kept HK) S2 I2.2) ?_;rintro e w14 ⟨q1,q,rfl⟩;refine ⟨_,rfl,trivial,fun _ f86=>?_⟩;have szw14:=q1.size;replace HK:=HK.z q1;replace Bg3:=Bg3.z q1;replace Bg11:=Bg11.z q1;clear q1;refine R.p 4 f86 rfl trivial (E.move f86 rfl) fun _ f86=>?_;refine R.p 5 f86 rfl trivial (E.extract f86 rfl rfl) fun _ f86=>?_;refine R.p 6 f86 rfl trivial (E.extract f86 rfl rfl) fun _ f86=>?_;refine R.on 8 ?_;refine OT.storeR f86 rfl wantedN Zh rfl rfl rfl Bg11 rfl rfl fun _ w15 f86 NB15 ks15=>?_;have szw15:=ks15.size;replace HK:=HK.trans ks15 (by intro x hx hlt; simp at hx; subst hx; (exfalso; omega));replace Bg3:=Bg3.kn ks15;replace Bg11:=NB15;clear ks15;refine R.p 9 f86 rfl trivial (E.assign f86 rfl) fun _ f86=>?_;exact R.done (by kernel_rfl) (jK J18 (by rw [hJ18]; exact ⟨_,rfl,HK,Bg3,f86.sub (sr rfl (sr rfl (sr rfl (sr rfl (sr rfl (sr rfl sn))))))⟩))
   ·skip;refine O.call f85 rfl rfl (by decide) wantedN (rc1 f85 Tryz.call9) (stopicN i nm _ hn) ?_;rintro e w12 ⟨q1,rfl⟩;refine ⟨_,rfl,trivial,fun _ f86=>?_⟩;have szw12:=q1.size;replace HK:=HK.z q1;replace Bg3:=Bg3.z q1;clear q1;refine R.two 0 7 (by kernel_rfl) ?_ ?_
    ·skip;refine O.val f86 rfl rfl (by decide) wantedN (by exact E.loadB f86 U40 rfl Zp rfl (Bg3) rfl) trivial fun _ f87=>?_;refine R.two 3 7 (by kernel_rfl) ?_ ?_
     ·skip;refine O.call f87 rfl rfl (by decide) wantedN (rc2 f87 Tryz.call13) (get_q t2 nm w12 (TO.kept HK) S2 I2.2) ?_;rintro e w13 ⟨q1,q,rfl⟩;refine ⟨_,rfl,trivial,fun _ f88=>?_⟩;have szw13:=q1.size;replace HK:=HK.z q1;replace Bg3:=Bg3.z q1;clear q1;refine R.p 4 f88 rfl trivial (E.move f88 rfl) fun _ f88=>?_;refine R.p 5 f88 rfl trivial (E.extract f88 rfl rfl) fun _ f88=>?_;refine R.p 6 f88 rfl trivial (E.extract f88 rfl rfl) fun _ f88=>?_;refine R.on 7 ?_;refine O.alloc f88 rfl wantedN (by decide) (z:=(.agg #[(.int .i64 0),(.int .i64 0),(.int .i64 0),(.int .i64 0),(.int .i64 0),(.int .i64 0),(.string ⟨#[]⟩),(.slice none 0 0),(.int .i64 0),(.bool false)])) (fun _=>by kernel_rfl) rfl (fun _ _=>trivial) fun _ w14 g13 N hSn f88=>?_;clear hSn;obtain ⟨Bg13,q1,log13,ltg13,szw14⟩:=N.al;have frg13:=HK.lo log13;have neg3_g13 : g3 ≠ g13:=by have:=Bg3.lt; omega
      replace HK:=HK.z q1;replace Bg3:=Bg3.z q1;clear N q1;refine R.on 8 ?_;refine OT.storeR f88 rfl wantedN Zh rfl rfl rfl Bg13 rfl rfl fun _ w15 f88 NB15 ks15=>?_;have szw15:=ks15.size;replace HK:=HK.trans ks15 (by intro x hx hlt; simp at hx; subst hx; (exfalso; omega));replace Bg3:=Bg3.kn ks15;replace Bg13:=NB15;clear ks15;refine R.p 9 f88 rfl trivial (E.assign f88 rfl) fun _ f88=>?_;exact R.done (by kernel_rfl) (jK J18 (by rw [hJ18]; exact ⟨_,rfl,HK,Bg3,f88.sub (sr rfl (sr rfl (sr rfl (sr rfl (sr rfl (sr rfl sn))))))⟩))
     skip;refine O.alloc f87 rfl wantedN (by decide) (z:=(.agg #[(.int .i64 0),(.int .i64 0),(.int .i64 0),(.int .i64 0),(.int .i64 0),(.int .i64 0),(.string ⟨#[]⟩),(.slice none 0 0),(.int .i64 0),(.bool false)])) (fun _=>by kernel_rfl) rfl (fun _ _=>trivial) fun _ w13 g12 N hSn f87=>?_;clear hSn;obtain ⟨Bg12,q1,log12,ltg12,szw13⟩:=N.al;have frg12:=HK.lo log12;have neg3_g12 : g3 ≠ g12:=by have:=Bg3.lt; omega
     replace HK:=HK.z q1;replace Bg3:=Bg3.z q1;clear N q1;refine R.on 3 ?_;refine O.call f87 rfl rfl (by decide) wantedN (rc2 f87 Tryz.call13) (get_q t2 nm w13 (TO.kept HK) S2 I2.2) ?_;rintro e w14 ⟨q1,q,rfl⟩;refine ⟨_,rfl,trivial,fun _ f87=>?_⟩;have szw14:=q1.size;replace HK:=HK.z q1;replace Bg3:=Bg3.z q1;replace Bg12:=Bg12.z q1;clear q1;refine R.p 4 f87 rfl trivial (E.move f87 rfl) fun _ f87=>?_;refine R.p 5 f87 rfl trivial (E.extract f87 rfl rfl) fun _ f87=>?_;refine R.p 6 f87 rfl trivial (E.extract f87 rfl rfl) fun _ f87=>?_;refine R.on 8 ?_;refine OT.storeR f87 rfl wantedN Zh rfl rfl rfl Bg12 rfl rfl fun _ w15 f87 NB15 ks15=>?_;have szw15:=ks15.size;replace HK:=HK.trans ks15 (by intro x hx hlt; simp at hx; subst hx; (exfalso; omega));replace Bg3:=Bg3.kn ks15;replace Bg12:=NB15;clear ks15;refine R.p 9 f87 rfl trivial (E.assign f87 rfl) fun _ f87=>?_;exact R.done (by kernel_rfl) (jK J18 (by rw [hJ18]; exact ⟨_,rfl,HK,Bg3,f87.sub (sr rfl (sr rfl (sr rfl (sr rfl (sr rfl (sr rfl sn))))))⟩))
    skip;refine O.alloc f86 rfl wantedN (by decide) (z:=(.agg #[(.int .i64 0),(.int .i64 0),(.int .i64 0),(.int .i64 0),(.int .i64 0),(.int .i64 0),(.string ⟨#[]⟩),(.slice none 0 0),(.int .i64 0),(.bool false)])) (fun _=>by kernel_rfl) rfl (fun _ _=>trivial) fun _ w13 g12 N hSn f86=>?_;clear hSn;obtain ⟨Bg12,q1,log12,ltg12,szw13⟩:=N.al;have frg12:=HK.lo log12;have neg3_g12 : g3 ≠ g12:=by have:=Bg3.lt; omega
    replace HK:=HK.z q1;replace Bg3:=Bg3.z q1;clear N q1;refine R.on 0 ?_;refine O.val f86 rfl rfl (by decide) wantedN (by exact E.loadB f86 U40 rfl Zp rfl (Bg3) rfl) trivial fun _ f86=>?_;refine R.on 3 ?_;refine O.call f86 rfl rfl (by decide) wantedN (rc2 f86 Tryz.call13) (get_q t2 nm w13 (TO.kept HK) S2 I2.2) ?_;rintro e w14 ⟨q1,q,rfl⟩;refine ⟨_,rfl,trivial,fun _ f86=>?_⟩;have szw14:=q1.size;replace HK:=HK.z q1;replace Bg3:=Bg3.z q1;replace Bg12:=Bg12.z q1;clear q1;refine R.p 4 f86 rfl trivial (E.move f86 rfl) fun _ f86=>?_;refine R.p 5 f86 rfl trivial (E.extract f86 rfl rfl) fun _ f86=>?_;refine R.p 6 f86 rfl trivial (E.extract f86 rfl rfl) fun _ f86=>?_;refine R.on 8 ?_;refine OT.storeR f86 rfl wantedN Zh rfl rfl rfl Bg12 rfl rfl fun _ w15 f86 NB15 ks15=>?_;have szw15:=ks15.size;replace HK:=HK.trans ks15 (by intro x hx hlt; simp at hx; subst hx; (exfalso; omega));replace Bg3:=Bg3.kn ks15;replace Bg12:=NB15;clear ks15;refine R.p 9 f86 rfl trivial (E.assign f86 rfl) fun _ f86=>?_;exact R.done (by kernel_rfl) (jK J18 (by rw [hJ18]; exact ⟨_,rfl,HK,Bg3,f86.sub (sr rfl (sr rfl (sr rfl (sr rfl (sr rfl (sr rfl sn))))))⟩))
   skip;refine O.alloc f85 rfl wantedN (by decide) (z:=(.agg #[(.int .i64 0),(.int .i64 0),(.int .i64 0),(.int .i64 0),(.int .i64 0),(.int .i64 0),(.string ⟨#[]⟩),(.slice none 0 0),(.int .i64 0),(.bool false)])) (fun _=>by kernel_rfl) rfl (fun _ _=>trivial) fun _ w12 g11 N hSn f85=>?_;clear hSn;obtain ⟨Bg11,q1,log11,ltg11,szw12⟩:=N.al;have frg11:=HK.lo log11;have neg3_g11 : g3 ≠ g11:=by have:=Bg3.lt; omega
   replace HK:=HK.z q1;replace Bg3:=Bg3.z q1;clear N q1;refine R.two 0 2 (by kernel_rfl) ?_ ?_
   ·skip;refine O.val f85 rfl rfl (by decide) wantedN (by exact E.loadB f85 U40 rfl Zp rfl (Bg3) rfl) trivial fun _ f86=>?_;refine R.on 2 ?_;refine O.call f86 rfl rfl (by decide) wantedN (rc1 f86 Tryz.call9) (stopicN i nm _ hn) ?_;rintro e w13 ⟨q1,rfl⟩;refine ⟨_,rfl,trivial,fun _ f86=>?_⟩;have szw13:=q1.size;replace HK:=HK.z q1;replace Bg3:=Bg3.z q1;replace Bg11:=Bg11.z q1;clear q1;refine R.on 3 ?_;refine O.call f86 rfl rfl (by decide) wantedN (rc2 f86 Tryz.call13) (get_q t2 nm w13 (TO.kept HK) S2 I2.2) ?_;rintro e w14 ⟨q1,q,rfl⟩;refine ⟨_,rfl,trivial,fun _ f86=>?_⟩;have szw14:=q1.size;replace HK:=HK.z q1;replace Bg3:=Bg3.z q1;replace Bg11:=Bg11.z q1;clear q1;refine R.p 4 f86 rfl trivial (E.move f86 rfl) fun _ f86=>?_;refine R.p 5 f86 rfl trivial (E.extract f86 rfl rfl) fun _ f86=>?_;refine R.p 6 f86 rfl trivial (E.extract f86 rfl rfl) fun _ f86=>?_;refine R.on 8 ?_;refine OT.storeR f86 rfl wantedN Zh rfl rfl rfl Bg11 rfl rfl fun _ w15 f86 NB15 ks15=>?_;have szw15:=ks15.size;replace HK:=HK.trans ks15 (by intro x hx hlt; simp at hx; subst hx; (exfalso; omega));replace Bg3:=Bg3.kn ks15;replace Bg11:=NB15;clear ks15;refine R.p 9 f86 rfl trivial (E.assign f86 rfl) fun _ f86=>?_;exact R.done (by kernel_rfl) (jK J18 (by rw [hJ18]; exact ⟨_,rfl,HK,Bg3,f86.sub (sr rfl (sr rfl (sr rfl (sr rfl (sr rfl (sr rfl sn))))))⟩))
   skip;refine O.call f85 rfl rfl (by decide) wantedN (rc1 f85 Tryz.call9) (stopicN i nm _ hn) ?_;rintro e w13 ⟨q1,rfl⟩;refine ⟨_,rfl,trivial,fun _ f85=>?_⟩;have szw13:=q1.size;replace HK:=HK.z q1;replace Bg3:=Bg3.z q1;replace Bg11:=Bg11.z q1;clear q1;refine R.on 0 ?_;refine O.val f85 rfl rfl (by decide) wantedN (by exact E.loadB f85 U40 rfl Zp rfl (Bg3) rfl) trivial fun _ f85=>?_;refine R.on 3 ?_;refine O.call f85 rfl rfl (by decide) wantedN (rc2 f85 Tryz.call13) (get_q t2 nm w13 (TO.kept HK) S2 I2.2) ?_;rintro e w14 ⟨q1,q,rfl⟩;refine ⟨_,rfl,trivial,fun _ f85=>?_⟩;have szw14:=q1.size;replace HK:=HK.z q1;replace Bg3:=Bg3.z q1;replace Bg11:=Bg11.z q1;clear q1;refine R.p 4 f85 rfl trivial (E.move f85 rfl) fun _ f85=>?_;refine R.p 5 f85 rfl trivial (E.extract f85 rfl rfl) fun _ f85=>?_;refine R.p 6 f85 rfl trivial (E.extract f85 rfl rfl) fun _ f85=>?_;refine R.on 8 ?_;refine OT.storeR f85 rfl wantedN Zh rfl rfl rfl Bg11 rfl rfl fun _ w15 f85 NB15 ks15=>?_;have szw15:=ks15.size;replace HK:=HK.trans ks15 (by intro x hx hlt; simp at hx; subst hx; (exfalso; omega));replace Bg3:=Bg3.kn ks15;replace Bg11:=NB15;clear ks15;refine R.p 9 f85 rfl trivial (E.assign f85 rfl) fun _ f85=>?_;exact R.done (by kernel_rfl) (jK J18 (by rw [hJ18]; exact ⟨_,rfl,HK,Bg3,f85.sub (sr rfl (sr rfl (sr rfl (sr rfl (sr rfl (sr rfl sn))))))⟩))
  intro _ w11 hj;rw [hJ18] at hj;clear hJ18 J18;obtain ⟨bb,hbb,HK,Bg3,f85⟩:=hj
  try clear f84
  refine C.sk fun _ k3=>?_;refine L.mv f85 fun _ f84=>?_;refine L.mv f84 fun _ f84=>?_;refine f84.split 93 rfl (fun h4 f84=>?_) (fun h4 f84=>?_)
  ·have h93:=h4;refine L.mv f84 (hw:=f84.y) fun _ f85=>?_;refine L.cl f85 (rc1 f85 Tryz.call17) (sfilterN b fb _ hfb hb) ?_ (hw:=f85.y);rintro e w12 ⟨q1,rfl⟩;refine ⟨_,rfl,fun _ f85=>?_⟩;have szw12:=q1.size;replace HK:=HK.z q1;replace Bg3:=Bg3.z q1;clear q1;refine L.mv f85 (hw:=f85.y) fun _ f85=>?_;refine L.cl f85 (rc1 f85 Tryz.call9) (stopicN i nm _ hn) ?_ (hw:=f85.y);rintro e w13 ⟨q1,rfl⟩;refine ⟨_,rfl,fun _ f85=>?_⟩;have szw13:=q1.size;replace HK:=HK.z q1;replace Bg3:=Bg3.z q1;clear q1;refine L.cl f85 (rc2 f85 Tryz.call24) (matchR_any fb nm w13 (GS.kept HK) (by omega) (by have:=p7_size (List.mem_of_getElem? hn); omega)) ?_ (hw:=f85.y);rintro e w14 ⟨q1,rfl⟩;refine ⟨_,rfl,fun _ f85=>?_⟩;have szw14:=q1.size;replace HK:=HK.z q1;replace Bg3:=Bg3.z q1;clear q1;refine L.va f85 (E.pickT f85 rfl rfl) fun _ f85=>?_;refine wn k3 ?_;have f85:=f85.pk [1,5,6,10,11,13,92,93,94,95,96,97,98,99];refine f85.split 99 rfl (fun h5 f85=>?_) (fun h5 f85=>?_)
   ·have h99:=h5;refine C.condT f85 rfl ?_;refine C.region ?_;refine L.mv f85 fun _ f86=>?_;refine L.va f86 (E.add f86 rfl rfl (IntWalk.i64_in _ (by omega))) fun _ f86=>?_;refine L.ag f86 fun _ f86=>?_;refine wn k2 ?_;have f86:=f86.pk [1,5,6,10,11,13,92,93,94,95,96,97,98,99,100,101];refine C.region ?_;refine L.mv f86 fun _ f86=>?_;refine L.va f86 (E.add f86 rfl rfl (IntWalk.u8_in _ (by omega))) fun _ f86=>?_;refine L.ag f86 fun _ f86=>?_;refine wpList_nil (hKL18 _ _ (gk19 - 1) ?_ ?_)
    ·omega
    exact ⟨i + 1,by omega,HK,Bg3,f86.sub (sx (sx (sx (sub_cons (by rw [cnt_y hn (by rw [← hbb]; exact h93) h99]; rfl) (sx sn)))))⟩
   have h99:=h5;refine C.condF f85 rfl ?_;refine wp_skip (k2 _ _ ?_);have f85:=f85.pk [1,5,6,10,11,13,92,93,94,95,96,97,98,99];refine C.region ?_;refine L.mv f85 fun _ f85=>?_;refine L.va f85 (E.add f85 rfl rfl (IntWalk.u8_in _ (by omega))) fun _ f85=>?_;refine L.ag f85 fun _ f85=>?_;refine wpList_nil (hKL18 _ _ (gk19 - 1) ?_ ?_)
   ·omega
   exact ⟨i + 1,by omega,HK,Bg3,f85.sub (sx (sx (sx (sub_cons (by rw [cnt_n hn (.inr h99)]; rfl) (sx sn)))))⟩
  have h93:=h4;refine L.skip f84 f84.nT rfl (by decide) fun _ f84=>?_;refine L.skip f84 f84.nT rfl (by decide) fun _ f84=>?_;refine L.skip f84 f84.nT rfl (by decide) fun _ f84=>?_;refine L.skip f84 f84.nT rfl (by decide) fun _ f84=>?_;refine L.skip f84 f84.nT rfl (by decide) fun _ f84=>?_;refine L.va f84 (E.pickF f84 rfl rfl) fun _ f84=>?_;refine wn k3 ?_;have f84:=f84.pk [1,5,6,10,11,13,92,93,94,95,96,97,98,99];refine C.condF f84 rfl ?_;refine wp_skip (k2 _ _ ?_);have f84:=f84.pk [1,5,6,10,11,13,92,93,94,95,96,97,98,99];refine C.region ?_;refine L.mv f84 fun _ f84=>?_;refine L.va f84 (E.add f84 rfl rfl (IntWalk.u8_in _ (by omega))) fun _ f84=>?_;refine L.ag f84 fun _ f84=>?_;refine wpList_nil (hKL18 _ _ (gk19 - 1) ?_ ?_)
  ·omega
  exact ⟨i + 1,by omega,HK,Bg3,f84.sub (sx (sx (sx (sub_cons (by rw [cnt_n hn (.inl (by rw [← hbb]; exact h93))]; rfl) (sx sn)))))⟩
 have hend2:=h3;refine C.condF f rfl ?_;refine wp_exit (k1 _ _ ?_);have f:=f.pk [6,10];refine wp_seq_k fun _ k1=>?_;have hc7:=cnt_all (u:=fb) (asc_of I2.2) (fun c hc=>inv_p7 I2.1 c hc);rw [show i = 7 by omega] at f;refine C.region ?_;refine L.mv f fun _ f=>?_;refine L.mv f fun _ f=>?_;refine L.va f (E.lenL f U38 rfl) fun _ f=>?_;refine L.va f (E.eql f rfl rfl) fun _ f=>?_;have f:=f.as (i:=105) (v':=.bool true) rfl (by rw [hc7,← lo_cnt hlo]; simp);refine L.ag f fun _ f=>?_;have f:=f.pk [4];refine wn k1 (wp_ret ?_); (try simp only [xt,xb]); refine C.ret f rfl rfl ?_;exact ⟨HK0.z HK,rfl⟩
end Go.Proofs.YtekmhcdgmgbheaaGreatDoor
namespace Go.Hub
open Go.RowKit Go.ChangeShapes Go.WideShapes Go.Deep
section
variable {H : Type} {enc : TypeId × Value → H} {P : Program} {w : World} {spare : Nat → Bool} {held : Bool}
theorem spot0 {b off : Nat} {s : Option Nat} {v : Value} (h : w.cell? ⟨b,off,s⟩ = some v) : s = none:=World.cell?_spot h
theorem open_seq {M : Type} {t e size : Nat} {v : Value} {d : DataW H} {p : List MemPlace} {rel : List Value → M → Prop} (hsz : P.cellsOf e = size) (hpos : 0 < size) (ht : P.underlying t = some (.slice e))
    (hv : ∃ a len cap,v = .slice a len cap) (h : DataW.Trod enc P w 0 spare held t v d p) (hel : ∀ n cs y,DataW.trod enc P w 0 spare held n e cs = some y → ∃ m,rel cs m) :
    ∃ A len cap xs ms,v = .slice A len cap ∧ len ≤ cap ∧ cap ≤ maxLen ∧ ms.length = len ∧ Rds w w.heap.size size A len xs ∧ Seq size rel xs ms:=by
  obtain ⟨a,len,cap,rfl⟩:=hv;obtain ⟨fuel,hf⟩:=h
  rcases open_slice ht hf with ⟨hcs,_⟩ | ⟨a',len',cap',m,n,D,Pl,hcs,_,hl,hm,hmm,_,hi⟩
  · simp [Value.cells] at hcs
    obtain ⟨rfl,rfl,rfl⟩:=hcs;exact ⟨none,0,0,[],[],rfl,Nat.le_refl _,by simp [maxLen],rfl,Rds.nil _ _ _ _,Seq.nil _ _⟩
  · simp [Value.cells] at hcs
    obtain ⟨rfl,rfl,rfl⟩:=hcs;obtain ⟨b,off,s⟩:=a';have hlm : len ≤ m:=by rw [hmm]; split <;> omega
    have key : ∀ k,k ≤ len → ∃ xs ms,ms.length = k ∧ Seq size rel xs ms ∧ (0 < k → s = none ∧ b < w.heap.size ∧ ∀ j u,xs[j]? = some u → w.cell? ⟨b,off + j,none⟩ = some u):=by
      intro k
      induction k with
      | zero=>exact fun _=>⟨[],[],rfl,Seq.nil _ _,fun h=>absurd h (by omega)⟩
      | succ k ih=>
        intro hk;obtain ⟨xs,ms,h1,h2,h3⟩:=ih (by omega);obtain ⟨cs',hc,htr⟩:=hi k (by omega);rw [hsz] at hc;obtain ⟨_,hcl,hat⟩:=World.cells?_some hc;obtain ⟨mm,hmm'⟩:=hel _ _ _ htr
        have hs : s = none ∧ b < w.heap.size:=by
          rcases Nat.eq_zero_or_pos k with h0 | h0
          · subst h0
            have h00:=hat 0 hpos;have e0 : cs'[0]? = some (cs'[0]'(by omega)):=List.getElem?_eq_getElem (by omega);rw [e0,Nat.zero_mul] at h00;have h01 : w.cell? ⟨b,off,s⟩ = some (cs'[0]'(by omega)):=by simpa [Addr.add] using h00
            exact ⟨spot0 h01,World.block_lt_of_cell? w _ h01⟩
          · exact ⟨(h3 h0).1,(h3 h0).2.1⟩
        obtain ⟨rfl,hbw⟩:=hs;refine ⟨xs ++ cs',ms ++ [mm],by simp [h1],h2.append (Seq.one hcl hmm'),fun _=>⟨rfl,hbw,fun j u hu=>?_⟩⟩
        rcases Nat.lt_or_ge j xs.length with hj | hj
        · rw [List.getElem?_append_left hj] at hu
          have hk0 : 0 < k:=by
            rcases Nat.eq_zero_or_pos k with h0 | h0
            · have:=h2.1; rw [h1,h0] at this; omega
            · exact h0
          exact (h3 hk0).2.2 j u hu
        · rw [List.getElem?_append_right hj] at hu
          have hlt : j - xs.length < cs'.length:=by
            rcases Nat.lt_or_ge (j - xs.length) cs'.length with h | h
            · exact h
            · rw [List.getElem?_eq_none h] at hu; cases hu
          have:=hat (j - xs.length) (by omega);rw [hu,add_none,add_none] at this;have e1:=h2.1;rw [h1] at e1;rw [show off + k * size + (j - xs.length) = off + j from by omega] at this;exact this
    obtain ⟨xs,ms,h1,h2,h3⟩:=key len (Nat.le_refl _);refine ⟨_,len,cap,xs,ms,rfl,hl,hm,h1,⟨by rw [h2.1,h1],fun hp=>?_⟩,h2⟩;obtain ⟨rfl,hb,hc⟩:=h3 hp;exact ⟨b,off,rfl,hb,hc⟩
end
end Go.Hub
namespace Go.Hub
open Go.RowKit Go.ChangeShapes Go.WideShapes Go.Deep
section
variable {H : Type} {enc : TypeId × Value → H} {P : Program} {w : World} {spare : Nat → Bool} {held : Bool}
theorem open_bytesC {t e n : Nat} {cs : List Value} {y : DataW H × List MemPlace} (E : List TypeId) (ht : P.underlying t = some (.slice e)) (he : P.underlying e = some (.int .u8)) (hsz : P.cellsOf e = 1)
    (h : DataW.trod enc P w 0 spare held n t cs = some y) : ∃ A c l,cs = [.slice A l.length c] ∧ l.length ≤ c ∧ c ≤ maxLen ∧ Bs E w.heap.size w A l.length l:=by
  rcases open_ints ht he hsz h with ⟨rfl,_⟩ | ⟨a,len,cap,zs,rfl,_,hl,hm,hz,_,hc,hw⟩
  · exact ⟨none,0,[],rfl,Nat.le_refl _,by simp [maxLen],Bs.nil _ _ _ _⟩
  have hzl : len ≤ zs.length:=by rw [hz]; split <;> omega
  have hlen : ((zs.take len).map fun z=>UInt8.ofNat z.toNat).length = len:=by simp; omega
  refine ⟨some a,cap,(zs.take len).map fun z=>UInt8.ofNat z.toNat,by rw [hlen],by rw [hlen]; omega,by omega,?_⟩;rw [hlen];refine ⟨hlen,fun hp=>?_⟩;obtain ⟨b,off,s⟩:=a;have h0:=hc 0 (by omega);have h01 : w.cell? ⟨b,off,s⟩ = some (.int .u8 (zs.getD 0 0)):=by simpa [Addr.add] using h0
  obtain rfl:=spot0 h01;have hbw:=World.block_lt_of_cell? w _ h01;refine ⟨b,off,rfl,hbw,.inl hbw,fun j x hx=>?_⟩;simp only [List.getElem?_map,Option.map_eq_some_iff] at hx;obtain ⟨z,hz2,rfl⟩:=hx
  have hj : j < len:=by
    rcases Nat.lt_or_ge j len with h | h
    · exact h
    rw [List.getElem?_take,if_neg (by omega)] at hz2; cases hz2
  rw [List.getElem?_take,if_pos hj] at hz2;have:=hc j (by omega);rw [add_none] at this;rw [this];have hzw:=bd_u8 (hw z (List.mem_of_getElem? hz2));have e1 : zs.getD j 0 = z:=by simp [List.getD_eq_getElem?_getD,hz2]
  rw [e1];unfold u8;rw [UInt8.toNat_ofNat']
  congr 2
  omega
end
end Go.Hub
set_option maxRecDepth 100000
namespace Go.Proofs.YtekmhcdgmgbheaaGreatDoor
open Go.RowKit Go.Hub Go.Lib Go.Shelf Go.ChangeShapes Go.WideShapes Go.Deep
def laidU : List (String × DataW Unit) := [("unicode/utf8.acceptRanges", Rows.laid_unicode_utf8_acceptRanges), ("unicode/utf8.first", Rows.laid_unicode_utf8_first)]
def tabRen : Ren:=⟨fun n=>n,fun | 119=>145 | 138=>147 | 139=>148 | n=>n,fun | 3=>0 | 4=>1 | n=>n⟩
theorem tabTypes : U8Types Tryz.prog tabRen:={ t5:=by kernel_rfl,t119:=by kernel_rfl,t138:=by kernel_rfl,t139:=by kernel_rfl }
theorem tabExtra : U8Extra Tryz.prog tabRen:={ n3:=by kernel_rfl,n4:=by kernel_rfl,y3:=by kernel_rfl,y4:=by kernel_rfl,c5:=by kernel_rfl,c119:=by kernel_rfl,c138:=by kernel_rfl }
theorem first_eq : Rows.laid_unicode_utf8_first = firstData:=by kernel_rfl
theorem accept_eq : (Rows.laid_unicode_utf8_acceptRanges : DataW Unit) = acceptData:=by kernel_rfl
theorem tabs_of {w : World} (h : laidMet Tryz.prog laidU w) : Tabs w:=by
  have h1 := laidMet.reads h (n := "unicode/utf8.first") (d := Rows.laid_unicode_utf8_first) (by simp [laidU]);have h2 := laidMet.reads h (n := "unicode/utf8.acceptRanges") (d := Rows.laid_unicode_utf8_acceptRanges) (by simp [laidU]);rw [first_eq] at h1;rw [accept_eq] at h2;exact utf8Tabs_of_readsT tabTypes tabExtra h1 h2
theorem laid_filter : (laidU.filter fun x=>x.2.handleName?.isSome) = []:=by kernel_rfl
theorem met_of {w : World} (h : laidMetH Tryz.prog laidU w) : laidMet Tryz.prog laidU w:=by
  unfold laidMetH at h;rw [laid_filter] at h;exact h
def layIn (cs : List Value) : Obj → Obj
  | .cells _ t frozen=>.cells cs.toArray t frozen
  | o=>o
def firstCells : List Value:=(List.range 256).map fun c=>Value.int .u8 (firstT c : Int)
def acceptCells : List Value:=(List.range 32).map fun c=>Value.int .u8 (if c % 2 = 0 then (accLo (c / 2) : Int) else (accHi (c / 2) : Int))
noncomputable def laidWorld (os : Os) : World:=
  { World.holding Tryz.prog os ⟨#[],#[],[]⟩ with heap:=((World.holding Tryz.prog os ⟨#[],#[],[]⟩).heap.modify 0 (layIn firstCells)).modify 1 (layIn acceptCells) }
theorem glob_of {w : World} (h : laidMet Tryz.prog laidU w) (hsh : w.ShapedOpen Tryz.prog) : Glob w:=by
  obtain ⟨s0,hs⟩:=cell_of_shapedOpen_int (P:=Tryz.prog) (g:=2) (t:=3) (zero:=#[.int .i64 0]) hsh (of_decide_eq_true (by kernel_rfl)) (by kernel_rfl) rfl (by kernel_rfl) (by kernel_rfl) U3;exact ⟨tabs_of h,s0,hs⟩
section
variable {H : Type} {enc : TypeId × Value → H} {w : World} {spare : Nat → Bool} {held : Bool}
theorem bd8 {k : Int} (h : (Lit.int .u8 k).wf = true) : 0 ≤ k ∧ k < 256:=by have:=bd_u8 h; omega
end
theorem end_of {e : Ending} {w w' : World} (h : Kept [] w w' ∧ e = .returned (.bool true)) : e = .returned (.bool true) ∧ Below w.heap.size w w':=⟨h.2,h.1.below0⟩
section
variable {H : Type} {enc : TypeId × Value → H} {w : World} {spare : Nat → Bool} {held : Bool}
def DeOk (w : World) (d : De) : Prop:=((0 ≤ d.what ∧ d.what < 256) ∧ (0 ≤ d.who ∧ d.who < 256) ∧ (0 ≤ d.k ∧ d.k < 256)) ∧ PayS w ⟨dum d.x,d.A,d.c⟩
theorem trod_u8 {n : Nat} {v : Value} {y : DataW H × List MemPlace} (h : DataW.trod enc Tryz.prog w 0 spare held n 5 [v] = some y) : ∃ q : Int,v = .int .u8 q ∧ 0 ≤ q ∧ q < 256:=by
  obtain ⟨q,e1,_,hw⟩:=DataW.trod_int U5 h;simp at e1;have:=bd8 hw;exact ⟨q,e1,by omega⟩
theorem open_deed (n : Nat) (cs : List Value) (y : DataW H × List MemPlace) (h : DataW.trod enc Tryz.prog w 0 spare held n 60 cs = some y) : ∃ x : De,cs = decell x ∧ DeOk w x:=by
  obtain ⟨ys,n',_,_,hcl,hyl,hf⟩:=DataW.trod_struct U60 h;have hcells : Tryz.prog.cellsOf 60 = 4:=by kernel_rfl
  rw [hcells] at hcl
  match cs,hcl with
  | [v0,v1,v2,v3],_=>
    have k5 : Tryz.prog.cellsOf 5 = 1:=by kernel_rfl
    have ku : Tryz.prog.cellsOf 25 = 1:=by kernel_rfl
    have l4 : ys.length = 4:=hyl;have f0 : DataW.trod enc Tryz.prog w 0 spare held n' 5 [v0] = ys[0]?:=by have:=hf 0 _ rfl; simpa [k5] using this
    have f1 : DataW.trod enc Tryz.prog w 0 spare held n' 5 [v1] = ys[1]?:=by have:=hf 1 _ rfl; simpa [k5] using this
    have f2 : DataW.trod enc Tryz.prog w 0 spare held n' 5 [v2] = ys[2]?:=by have:=hf 2 _ rfl; simpa [k5] using this
    have f3 : DataW.trod enc Tryz.prog w 0 spare held n' 25 [v3] = ys[3]?:=by have:=hf 3 _ rfl; simpa [ku] using this
    rw [List.getElem?_eq_getElem (by omega)] at f0 f1 f2 f3;obtain ⟨x0,e0,b0⟩:=trod_u8 f0;obtain ⟨x1,e1,b1⟩:=trod_u8 f1;obtain ⟨x2,e2,b2⟩:=trod_u8 f2;obtain ⟨A,c,x,ex,hl,_,hb⟩:=open_bytesC [5] U25 U5 (show Tryz.prog.cellsOf 5 = 1 by kernel_rfl) f3;simp at ex;exact ⟨⟨x0,x1,x2,x,A,c⟩,by rw [e0,e1,e2,ex],⟨⟨b0,b1,b2⟩,⟨Sl.of_rds hb.rds,hl⟩⟩⟩
theorem seqc {M : Type} {size : Nat} {cell : M → List Value} {R : M → Prop} : ∀ (ms : List M) (xs : List Value), Seq size (fun cs m => cs = cell m ∧ R m) xs ms → xs = ms.flatMap cell ∧ ∀ m ∈ ms, R m
  | [],xs,h=>by
    have:=h.1
    simp at this
    exact ⟨by simp [this],by simp⟩
  | m :: r,xs,h=>by
    have h0:=h.2 0 m rfl
    rw [Nat.zero_mul,List.drop_zero] at h0
    have h1:=h.drop 1
    rw [Nat.one_mul] at h1
    obtain ⟨i1,i2⟩:=seqc r _ h1
    refine ⟨?_,fun y hy=>?_⟩
    · rw [List.flatMap_cons,← h0.1,← i1,List.take_append_drop]
    rcases List.mem_cons.1 hy with rfl | hy
    · exact h0.2
    exact i2 y hy
def IsDeeds (w : World) (v : Value) : Prop:=∃ (l : List De) (A : Option Addr) (c : Nat),v = .slice A l.length c ∧ Sl w A l.length 4 (l.flatMap decell) ∧ ∀ d ∈ l,DeOk w d
theorem open_ds {r : Reach} {b0 : Nat} {v : Value} {d : DataW H} {p : List MemPlace} (hv : Value.okWide Tryz.prog w r b0 22 v) (h : DataW.Trod enc Tryz.prog w 0 spare held 22 v d p) : IsDeeds w v:=by
  obtain ⟨A,m,q,xs,l,rfl,hm,hq,hl,rd,s⟩:=open_seq (rel:=fun cs x=>cs = decell x ∧ DeOk w x) (show Tryz.prog.cellsOf 60 = 4 by kernel_rfl) (by omega) Tryz.underlying22 (okWide_slice Tryz.underlying22 hv) h open_deed;subst hl;obtain ⟨e,hall⟩:=seqc l xs s;rw [e] at rd;exact ⟨l,A,q,rfl,Sl.of_rds rd,hall⟩
end
theorem shown_row {v0 : Value} {b : Int} {w : World} (G : Glob w) (h0 : IsDeeds w v0) (w1 : (Lit.int .u8 b).wf = true) :
    Calls Tryz.prog 5 #[v0,.int .u8 b] w fun e w'=>e = .returned (.bool true) ∧ Below w.heap.size w w':=by
  obtain ⟨l,A,c,rfl,DL,hE⟩:=h0;exact (shownL_walk l A c b w G DL hE (bd8 w1)).mono fun _ _=>end_of
end Go.Proofs.YtekmhcdgmgbheaaGreatDoor
