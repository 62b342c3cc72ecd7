/- Merged by program (shrink.py): contracts and plain laws that the claim's statement uses, part 2. -/
import Derived.Test.YtekmhcdgmgbheaaGreatDoorMa1
set_option linter.all false
set_option maxRecDepth 100000
set_option maxHeartbeats 8000000

namespace Go.Proofs.YtekmhcdgmgbheaaGreatDoor
open Go.RowKit Go.Hub
theorem Z6 : (Tryz.prog.info? 46).map (fun i=>(i.zero,i.size)) = some (some (.agg #[(.int .i64 0),(.int .i64 0),(.int .i64 0)]),3):=by kernel_rfl
theorem Z7 (x0_0 x0_1 x0_2 : Value) : Instr.fill (fun i=>some (i * 3,3)) ((Array.range (1 * 3)).map fun j=>(Value.cells (.agg #[(.int .i64 0),(.int .i64 0),(.int .i64 0)]))[j % (Value.cells (.agg #[(.int .i64 0),(.int .i64 0),(.int .i64 0)])).size]!) [(0,.agg #[x0_0,x0_1,x0_2])] = some #[x0_0,x0_1,x0_2]:=by kernel_rfl
theorem sl_one (w : World) (g : Nat) (d : Dt) (B : Blk w g 46 #[.int .i64 d.node,.int .i64 d.epoch,.int .i64 d.n]) : Ds w (some ⟨g,0,none⟩) [d]:=
  ⟨rfl,fun _=>⟨g,0,rfl,B.lt,fun j u hu=>by rw [Nat.zero_add]; exact B.cell_ (by simpa [dcells] using hu)⟩⟩
theorem rightB_one (d : Dt) : rightB [d] = mayB d:=by simp [rightB,rightFrom,nextOk]
theorem AddR_any (l : List Dt) (A : Option Addr) (c : Nat) (d : Dt) (w : World) (A1 : Ds w A l) (hm : l.length ≤ 1000000) : Calls Tryz.prog 40 #[.slice A l.length c,.agg (dcell d).toArray] w (DotsPost (addD l d) w):=by
 have HK : Kept [] w w:=Kept.refl [] w;refine C.enter Tryz.func40 rfl Tryz.ntmps40 rfl ?_;intro a1 f;have f : Fr 67 a1 [(0,.slice A l.length c),(1,.agg (dcell d).toArray)]:=f;refine C.sk fun _ k1=>?_;refine L.box f wantedN (by decide) rfl rfl fun _ w1 g0 N f=>?_;obtain ⟨Bg0,q,log0,ltg0,szw1⟩:=N.al;have frg0:=HK.lo log0;replace HK:=HK.z q;clear N q;refine L.ag f fun _ f=>?_;refine wn k1 ?_;have f:=f.pk [0,3,4];refine wp_seq_k fun _ k1=>C.sk fun _ k2=>?_;refine L.mv f fun _ f=>?_;refine L.cl f (rc1 f Tryz.call77) (rightR_any l _ _ _ (A1.kept HK) (by unfold maxLen; omega)) ?_;rintro e w2 ⟨q,rfl⟩;refine ⟨_,rfl,fun _ f=>?_⟩;have szw2:=q.size;replace HK:=HK.z q;replace Bg0:=Bg0.z q;clear q;refine L.va f (E.not f rfl) fun _ f=>?_;refine wn k2 ?_;have f:=f.pk [0,3,4,9];refine f.splitNB 9 rfl (fun h0 f=>?_) (fun h0 f=>?_)
 ·have hrb:=h0;refine C.condT f rfl ?_;refine C.sk fun _ k2=>?_;refine L.ag f fun _ f77=>?_;have f77:=f77.pk [0,3,4];refine wn k2 (wp_ret ?_); (try simp only [xt,xb]); refine C.ret f77 rfl rfl ?_;exact ⟨HK,none,0,by simp [addD,hrb],by simpa [addD,hrb,dcells] using Fresh.nil w w2 46 3⟩
 have hrb:=h0;refine C.condF f rfl ?_;refine wp_skip (k1 _ _ ?_);have f:=f.pk [0,3,4];refine C.sk fun _ k1=>?_;refine L.mv f fun _ f=>?_;refine L.append f wantedN (by decide) U32 Z5 rfl rfl rfl rfl (Own.nil _ _ _) (A1.kept HK) (dcells_one l) (by unfold maxLen; omega) (by omega) fun _ w3 Ao co AP3 f=>?_;have kap3 : Kept [] w2 w3:=by simpa [Value.ownBlock] using AP3.kept
 have FR : Fresh w w3 46 3 Ao l.length co (dcells l):=by simpa using AP3.next (Fresh.nil w w2 46 3) HK.size
 replace f:=f.as (i:=11) (v':=.slice Ao l.length co) rfl (by rw [Nat.zero_add]);have szw3:=kap3.size;replace HK:=HK.z kap3;replace Bg0:=Bg0.z kap3;clear kap3;refine L.ag f fun _ f=>?_;refine wn k1 ?_;have f:=f.pk [0,3,4,5];refine wp_seq_k fun _ k1=>C.sk fun _ k2=>?_;refine L.va f (E.loadB f U46 rfl Z3 rfl (Bg0) rfl) fun _ f=>?_;refine L.buildSlice f wantedN (by decide) (parts1 f rfl) U32 Z6 rfl rfl (Z7 _ _ _) fun _ w4 g3 N f=>?_;obtain ⟨Bg3,q,log3,ltg3,szw4⟩:=N.al;have frg3:=HK.lo log3;have neg0_g3 : g0 ≠ g3:=by have:=Bg0.lt; omega
 replace HK:=HK.z q;replace Bg0:=Bg0.z q;replace FR:=FR.kept0 q;clear N q;refine L.cl f (rc1 f Tryz.call77) (rightR_any [d] (some ⟨g3,0,none⟩) 1 w4 (sl_one _ _ d Bg3) (by simp [maxLen])) ?_;rintro e w5 ⟨q,rfl⟩;refine ⟨_,rfl,fun _ f=>?_⟩;have szw5:=q.size;replace HK:=HK.z q;replace Bg0:=Bg0.z q;replace FR:=FR.kept0 q;replace Bg3:=Bg3.z q;clear q;refine L.va f (E.not f rfl) fun _ f=>?_;refine L.mv f fun _ f=>?_;refine f.splitNB 16 rfl (fun h1 f=>?_) (fun h1 f=>?_)
 ·have hmy:=h1;refine L.run f (rest':=[]) (by kernel_rfl) fun _ f77=>?_;refine wn k2 ?_;have f77:=f77.sub (sv 20 (.bool true) (pkR f77 [3,4,5]));refine C.condT f77 rfl ?_;refine C.sk fun _ k3=>?_;refine L.mv f77 fun _ f77=>?_;refine L.ag f77 fun _ f77=>?_;have f77:=f77.pk [3,4,5];refine wn k3 (wp_ret ?_); (try simp only [xt,xb]); refine C.ret f77 rfl rfl ?_;have e : addD l d = l:=by unfold addD; rw [if_neg (by simp [hrb]),if_pos (by left; rw [rightB_one] at hmy; exact hmy)]
  rw [e];exact ⟨HK,Ao,co,rfl,FR⟩
 have hmy:=h1;refine L.mv f (hw:=f.y) fun _ f=>?_;refine L.va f (E.loadB f U46 rfl Z3 rfl (Bg0) rfl) (hw:=f.y) fun _ f=>?_;refine L.cl f (rc2 f Tryz.call50) (HasR_any l _ _ _ _ (A1.kept HK) hm) ?_ (hw:=f.y);rintro e w6 ⟨q,rfl⟩;refine ⟨_,rfl,fun _ f=>?_⟩;have szw6:=q.size;replace HK:=HK.z q;replace Bg0:=Bg0.z q;replace FR:=FR.kept0 q;replace Bg3:=Bg3.z q;clear q;refine L.va f (E.pickF f rfl rfl) fun _ f=>?_;refine wn k2 ?_;have f:=f.pk [3,4,5,20];refine f.split 20 rfl (fun h2 f=>?_) (fun h2 f=>?_)
 ·have hhs:=h2;refine C.condT f rfl ?_;refine C.sk fun _ k2=>?_;refine L.mv f fun _ f77=>?_;refine L.ag f77 fun _ f77=>?_;have f77:=f77.pk [3,4,5];refine wn k2 (wp_ret ?_); (try simp only [xt,xb]); refine C.ret f77 rfl rfl ?_;have e : addD l d = l:=by unfold addD; rw [if_neg (by simp [hrb]),if_pos (by right; exact hhs)]
  rw [e];exact ⟨HK,Ao,co,rfl,FR⟩
 have hhs:=h2;refine C.condF f rfl ?_;refine wp_skip (k1 _ _ ?_);have f:=f.pk [3,4,5];refine C.sk fun _ k1=>?_;refine L.ag f fun _ f=>?_;refine wn k1 ?_;have f:=f.pk [3,4,5,6];refine wp_seq_k fun _ k1=>?_;refine wp_block ?_;obtain ⟨Ax0,cx0,hov,hov2,hov3⟩:=FR.own.form;have hco : l.length ≤ co:=by injection hov with e1 e2 e3; omega
 refine C.loop (fun gk a W=>∃ k : Nat,k + gk = l.length ∧ Kept [] w W ∧ (∀ x ∈ l.take k,lt2 x d) ∧ Blk W g0 46 (dcell d).toArray ∧ Fresh w W 46 3 Ao l.length co (dcells l) ∧ Fr 67 a [(3,.pointer (some ⟨g0,0,none⟩)),(5,.slice Ao l.length co),(6,.int .i64 k)]) (l.length) ?_ ?_
 ·exact ⟨0,by omega,HK,by simp,Bg0,FR,f.sub (sx (sx (sx sn)))⟩
 intro gk12 _ w7 hI KL11 hKL11;obtain ⟨k,hk,HK,hq,Bg0,FR,f77⟩:=hI
 try clear f
 refine wp_seq_k fun _ k2=>?_;refine wp_seq_k fun _ k3=>?_;refine R.begin (S:=fun W=>Kept [] w7 W) (by kernel_rfl) (by exact (Kept.refl _ _).drewN 1) ?_;have s : Kept [] w7 (w7.drewN 1):=(Kept.refl _ _).drewN 1;have hd7 : Kept [] w7 (w7.drewN 1):=(Kept.refl _ _).drewN 1;obtain ⟨w8,hww8⟩ : ∃ W,W = w7.drewN 1:=⟨_,rfl⟩;rw [← hww8] at s hd7 ⊢;clear hww8;have szw8:=s.size;refine R.mv 0 f77 rfl s fun _ f=>?_;refine R.mv 1 f rfl s fun _ f=>?_;refine R.p 2 f rfl s (E.lenL f U32 rfl) fun _ f=>?_;refine R.p 3 f rfl s (E.lss f rfl rfl) fun _ f=>?_;refine R.mv 4 f rfl s fun _ f=>?_;refine f.splitD 26 rfl (fun h3 f=>?_) (fun h3 f=>?_)
 ·obtain ⟨x,hx⟩ : ∃ x,l[k]? = some x:=⟨l[k]'(by omega),List.getElem?_eq_getElem _⟩;obtain ⟨bk,off,hAo⟩:=FR.sl.addr (by omega);refine R.mv 5 f rfl s (hw:=f.y) fun _ f77=>?_;refine R.mv 6 f77 rfl s (hw:=f77.y) fun _ f77=>?_;refine R.p 7 f77 rfl s (E.indexA f77 (by assumption) U32 Z3 rfl rfl (by omega) (by omega)) (hw:=f77.y) fun _ f77=>?_;refine R.t 8 f77 rfl s (fun W hW=>(E.loadR f77 U46 rfl Z3 rfl ((FR.kept0 hW).sl.row (by omega) hAo (dcells_at l k x hx)) rfl)) (hw:=f77.y) fun _ f77=>?_;refine R.t 9 f77 rfl s (fun W hW=>(E.loadB f77 U46 rfl Z3 rfl (Bg0.z hW) rfl)) (hw:=f77.y) fun _ f77=>?_;refine R.call 10 f77 rfl rfl (by decide) (by kernel_rfl) f77.y (rc2 f77 Tryz.call78) (ahead_any _ _ _) ?_;rintro e w9 ⟨q,rfl⟩;replace s:=s.trans q (by simp);refine ⟨_,rfl,s,fun _ f77=>?_⟩;have szw9:=q.size;clear q;refine R.p 11 f77 rfl s (E.pickT f77 rfl rfl) fun _ f77=>?_;have szw9r:=s.size;replace HK:=HK.z s;replace Bg0:=Bg0.z s;replace FR:=FR.kept0 s;clear s;refine R.done (by kernel_rfl) (k3 _ _ ?_);have f77:=f77.pk [3,5,6,22,23,24,25,26,27,28,29,30,31,32,33];refine f77.splitD 33 rfl (fun h4 f77=>?_) (fun h4 f77=>?_)
  ·have hlx:=h4;refine C.condT f77 rfl ?_;refine wp_skip (k2 _ _ ?_);have f78:=f77.pk [3,5,6,22,23,24,25,26,27,28,29,30,31,32,33];refine wp_block ?_;refine C.region ?_;refine L.mv f78 fun _ f78=>?_;refine L.va f78 (E.add f78 rfl rfl (IntWalk.i64_in _ (by omega))) fun _ f78=>?_;refine L.ag f78 fun _ f78=>?_;refine wpList_nil (hKL11 _ _ (gk12 - 1) ?_ ?_)
   ·omega
   exact ⟨k + 1,by omega,HK,in_take hq hx (by simpa using hlx),Bg0,FR,f78.sub (sx (sx (sx sn)))⟩
  have hlx:=h4;refine C.condF f77 rfl ?_;refine wp_exit (k1 _ _ ?_);have f77:=f77.pk [3,5,6];refine wp_seq_k fun _ k2=>?_;refine wp_seq_k fun _ k4=>?_;have hend : ∀ y,l[k]? = some y → ¬ lt2 y d:=fun y hy=>by rw [hx] at hy; cases hy; simpa using hlx
  refine R.begin (S:=fun W=>Kept [] w9 W) (by kernel_rfl) (by exact (Kept.refl _ _).drewN 1) ?_;have s1 : Kept [] w9 (w9.drewN 1):=(Kept.refl _ _).drewN 1;have hd9 : Kept [] w9 (w9.drewN 1):=(Kept.refl _ _).drewN 1;obtain ⟨w10,hww10⟩ : ∃ W,W = w9.drewN 1:=⟨_,rfl⟩;rw [← hww10] at s1 hd9 ⊢;clear hww10;have szw10:=s1.size;refine R.mv 0 f77 rfl s1 fun _ f77=>?_;refine R.mv 1 f77 rfl s1 fun _ f77=>?_;refine R.p 2 f77 rfl s1 (E.lenL f77 U32 rfl) fun _ f77=>?_;refine R.p 3 f77 rfl s1 (E.lss f77 rfl rfl) fun _ f77=>?_;refine R.mv 4 f77 rfl s1 fun _ f77=>?_;refine f77.splitD 40 rfl (fun h5 f77=>?_) (fun h5 f77=>?_)
  ·obtain ⟨x,hx⟩ : ∃ x,l[k]? = some x:=⟨l[k]'(by omega),List.getElem?_eq_getElem _⟩;obtain ⟨bk,off,hAo⟩:=FR.sl.addr (by omega);have hnx:=hend x hx;refine R.t 5 f77 rfl s1 (fun W hW=>(E.loadB f77 U46 rfl Z3 rfl (Bg0.z hW) rfl)) (hw:=f77.y) fun _ f78=>?_;refine R.mv 6 f78 rfl s1 (hw:=f78.y) fun _ f78=>?_;refine R.mv 7 f78 rfl s1 (hw:=f78.y) fun _ f78=>?_;refine R.p 8 f78 rfl s1 (E.indexA f78 (by assumption) U32 Z3 rfl rfl (by omega) (by omega)) (hw:=f78.y) fun _ f78=>?_;refine R.t 9 f78 rfl s1 (fun W hW=>(E.loadR f78 U46 rfl Z3 rfl ((FR.kept0 hW).sl.row (by omega) hAo (dcells_at l k x hx)) rfl)) (hw:=f78.y) fun _ f78=>?_;refine R.call 10 f78 rfl rfl (by decide) (by kernel_rfl) f78.y (rc2 f78 Tryz.call78) (ahead_any _ _ _) ?_;rintro e w11 ⟨q,rfl⟩;replace s1:=s1.trans q (by simp);refine ⟨_,rfl,s1,fun _ f78=>?_⟩;have szw11:=q.size;clear q;refine R.p 11 f78 rfl s1 (E.not f78 rfl) (hw:=f78.y) fun _ f78=>?_;refine R.p 12 f78 rfl s1 (E.pickT f78 rfl rfl) fun _ f78=>?_;have szw11r:=s1.size;replace HK:=HK.z s1;replace Bg0:=Bg0.z s1;replace FR:=FR.kept0 s1;clear s1;refine R.done (by kernel_rfl) (k4 _ _ ?_);have f78:=f78.pk [3,5,6,48];refine f78.splitN 48 rfl (fun h6 f78=>?_) (fun h6 f78=>?_)
   ·have hdx:=h6;refine C.condT f78 rfl ?_;refine C.sk fun _ k5=>?_;refine L.mv f78 fun _ f79=>?_;refine L.mv f79 fun _ f79=>?_;refine L.fa 2 f79 U46 rfl Z0 fun _ f79=>?_;refine L.va f79 (E.load f79 U3 rfl rfl ((Bg0).cl rfl)) fun _ f79=>?_;refine L.va f79 (E.indexA f79 (by assumption) U32 Z3 rfl rfl (by omega) (by omega)) fun _ f79=>?_;refine L.fa 2 f79 U46 rfl Z0 fun _ f79=>?_;refine L.storeF f79 wantedN Z0 hAo FR (j:=k * 3 + 2) rfl (by rw [dcells_len]; omega) rfl rfl fun _ w12 f79 FS ks loS=>?_;have FS2 : Fresh w w12 46 3 Ao l.length co ((dcells l).set (k * 3 + 2) (.int .i64 d.n)):=FS;rw [dcells_set l k x d.n hx] at FS2;replace HK:=HK.trans ks (by intro x hx hlt; simp at hx; subst hx; exfalso; omega);have f79:=f79.pk [3,5,6];refine wn k5 (C.sk fun _ k5=>?_);refine L.mv f79 fun _ f79=>?_;refine L.ag f79 fun _ f79=>?_;have f79:=f79.pk [3,4,5,6];refine wn k5 (wp_ret ?_); (try simp only [xt,xb]); refine C.ret f79 rfl rfl ?_;have hnm : ¬ (mayB d = false ∨ hasB l d = true):=by rw [rightB_one] at hmy; simp [hmy,hhs]
    have e0 : addD l d = insD l d:=by unfold addD; rw [if_neg (by simp [hrb]),if_neg hnm]
    have e1:=insD_at l d k hq hend (by omega);have e : addD l d = l.set k { x with n:=d.n }:=by rw [e0,e1,hx]; simp only; rw [if_neg (by simpa using hdx)]
    have el : (l.set k { x with n:=d.n }).length = l.length:=List.length_set;refine ⟨HK,Ao,co,by rw [e,el],?_⟩;rw [e,el];exact FS2
   have hdx:=h6;refine C.condF f78 rfl ?_;refine wp_skip (k2 _ _ ?_);have f78:=f78.pk [3,5,6];refine wp_seq_k fun _ k5=>?_;refine R.begin (S:=fun W=>Kept [] w11 W) (by kernel_rfl) (by exact (Kept.refl _ _).drewN 1) ?_;have s2 : Kept [] w11 (w11.drewN 1):=(Kept.refl _ _).drewN 1;have hd12 : Kept [] w11 (w11.drewN 1):=(Kept.refl _ _).drewN 1;obtain ⟨w12,hww12⟩ : ∃ W,W = w11.drewN 1:=⟨_,rfl⟩;rw [← hww12] at s2 hd12 ⊢;clear hww12;have szw12:=s2.size;refine R.mv 0 f78 rfl s2 fun _ f78=>?_;refine R.mv 1 f78 rfl s2 fun _ f78=>?_;refine R.p 2 f78 rfl s2 (E.slLhi f78 U32 Z3 rfl rfl (by omega) (by omega) ) fun _ f78=>?_;refine R.t 4 f78 rfl s2 (fun W hW=>(E.loadB f78 U46 rfl Z3 rfl (Bg0.z hW) rfl)) fun _ f78=>?_;refine R.mv 7 f78 rfl s2 fun _ f78=>?_;refine R.mv 8 f78 rfl s2 fun _ f78=>?_;refine R.p 9 f78 rfl s2 (E.slLlo f78 U32 Z3 rfl rfl (by omega) (by omega) ) fun _ f78=>?_;refine R.two 3 5 (by kernel_rfl) ?_ ?_
   ·skip;refine O.append f78 rfl wantedN (by decide) U32 Z5 rfl rfl rfl rfl (Own.nil _ _ _) (Sl.of_own ((FR.kept0 s2).own.head (k:=k) (by omega))) (fun u hu=>dcells_one l u (List.mem_of_mem_take hu)) (by unfold maxLen; omega) (by omega) fun _ w13 Ax cx AP13=>?_;have kap13 : Kept [] w12 w13:=by simpa [Value.ownBlock] using AP13.kept
    have FX : Fresh w w13 46 3 Ax (0 + k) cx ([] ++ (dcells l).take (k * 3)):=AP13.next (Fresh.nil w w12 46 3) (Nat.le_trans HK.size s2.size)
    have FXr : Fresh w11 w13 46 3 Ax (0 + k) cx ([] ++ (dcells l).take (k * 3)):=AP13.next (Fresh.nil w11 w12 46 3) s2.size
    have hSn:=s2.trans kap13 (by simp);refine ⟨hSn,fun f79=>?_⟩;have szw13:=kap13.size;clear kap13;replace s2:=hSn;clear hSn;refine R.on 5 ?_;refine O.buildSlice f79 rfl wantedN (by decide) (parts1 f79 rfl) U32 Z6 rfl rfl (Z7 _ _ _) (fun _ hk=>s2.trans hk (by simp)) fun _ w14 g13 N hSn f79=>?_;obtain ⟨Bg13,q,log13,ltg13,szw14⟩:=N.al;have szSw14:=s2.size;replace FX:=FX.kept0 q;replace FXr:=FXr.kept0 q;clear N q;replace s2:=hSn;clear hSn;refine R.on 6 ?_;refine O.append f79 rfl wantedN (by decide) U32 Z5 rfl rfl rfl rfl (FX.own) (sl_one w14 g13 d Bg13) (fun u hu=>dcells_one [d] u hu) (by unfold maxLen; omega) (by omega) fun _ w15 Ay cy AP15=>?_;have hSn:=AP15.grow FXr s2;have FY:=AP15.next FX (Nat.le_trans HK.size s2.size)
    have FYr:=AP15.next FXr s2.size
    refine ⟨hSn,fun f79=>?_⟩;have szw15:=AP15.kept.size;replace s2:=hSn;clear hSn;refine R.on 10 ?_;refine O.append f79 rfl wantedN (by decide) U32 Z5 rfl rfl rfl rfl (FY.own) (Sl.of_own ((FR.kept0 s2).own.cut (k:=k) (by omega))) (fun u hu=>dcells_one l u (List.mem_of_mem_drop hu)) (by unfold maxLen; omega) (by omega) fun _ w16 Az cz AP16=>?_;have hSn:=AP16.grow FYr s2;have FZ:=AP16.next FY (Nat.le_trans HK.size s2.size)
    refine ⟨hSn,fun f79=>?_⟩;have szw16:=AP16.kept.size;replace s2:=hSn;clear hSn;refine R.p 11 f79 rfl s2 (E.assign f79 rfl) fun _ f79=>?_;have szw16r:=s2.size;replace HK:=HK.z s2;replace Bg0:=Bg0.z s2;replace FR:=FR.kept0 s2;clear s2;refine R.done (by kernel_rfl) (k5 _ _ ?_);have f79:=f79.pk [4];refine wp_ret ?_; (try simp only [xt,xb]); refine C.ret f79 rfl rfl ?_;have hnm : ¬ (mayB d = false ∨ hasB l d = true):=by rw [rightB_one] at hmy; simp [hmy,hhs]
    have e0 : addD l d = insD l d:=by unfold addD; rw [if_neg (by simp [hrb]),if_neg hnm]
    have e1:=insD_at l d k hq hend (by omega);have e : addD l d = l.take k ++ d :: l.drop k:=by rw [e0,e1,hx]; simp only; rw [if_pos (by simpa using hdx)]
    have el : (addD l d).length = 0 + k + 1 + (l.length - k):=by rw [e]; simp; omega
    refine ⟨HK,Az,cz,by rw [el]; rfl,?_⟩;rw [el,e];have ed : dcells (l.take k ++ d :: l.drop k) = [] ++ (dcells l).take (k * 3) ++ dcells [d] ++ (dcells l).drop (k * 3):=by rw [dcells_take,dcells_drop]; simp [dcells]
    rw [ed];exact FZ
   skip;refine O.buildSlice f78 rfl wantedN (by decide) (parts1 f78 rfl) U32 Z6 rfl rfl (Z7 _ _ _) (fun _ hk=>s2.trans hk (by simp)) fun _ w13 g12 N hSn f78=>?_;obtain ⟨Bg12,q,log12,ltg12,szw13⟩:=N.al;have szSw13:=s2.size;clear N q;replace s2:=hSn;clear hSn;refine R.on 3 ?_;refine O.append f78 rfl wantedN (by decide) U32 Z5 rfl rfl rfl rfl (Own.nil _ _ _) (Sl.of_own ((FR.kept0 s2).own.head (k:=k) (by omega))) (fun u hu=>dcells_one l u (List.mem_of_mem_take hu)) (by unfold maxLen; omega) (by omega) fun _ w14 Ax cx AP14=>?_;have kap14 : Kept [] w13 w14:=by simpa [Value.ownBlock] using AP14.kept
   have FX : Fresh w w14 46 3 Ax (0 + k) cx ([] ++ (dcells l).take (k * 3)):=AP14.next (Fresh.nil w w13 46 3) (Nat.le_trans HK.size s2.size)
   have FXr : Fresh w11 w14 46 3 Ax (0 + k) cx ([] ++ (dcells l).take (k * 3)):=AP14.next (Fresh.nil w11 w13 46 3) s2.size
   have hSn:=s2.trans kap14 (by simp);refine ⟨hSn,fun f78=>?_⟩;have szw14:=kap14.size;replace Bg12:=Bg12.z kap14;clear kap14;replace s2:=hSn;clear hSn;refine R.on 6 ?_;refine O.append f78 rfl wantedN (by decide) U32 Z5 rfl rfl rfl rfl (FX.own) (sl_one w14 g12 d Bg12) (fun u hu=>dcells_one [d] u hu) (by unfold maxLen; omega) (by omega) fun _ w15 Ay cy AP15=>?_;have hSn:=AP15.grow FXr s2;have FY:=AP15.next FX (Nat.le_trans HK.size s2.size)
   have FYr:=AP15.next FXr s2.size
   refine ⟨hSn,fun f78=>?_⟩;have szw15:=AP15.kept.size;replace s2:=hSn;clear hSn;refine R.on 10 ?_;refine O.append f78 rfl wantedN (by decide) U32 Z5 rfl rfl rfl rfl (FY.own) (Sl.of_own ((FR.kept0 s2).own.cut (k:=k) (by omega))) (fun u hu=>dcells_one l u (List.mem_of_mem_drop hu)) (by unfold maxLen; omega) (by omega) fun _ w16 Az cz AP16=>?_;have hSn:=AP16.grow FYr s2;have FZ:=AP16.next FY (Nat.le_trans HK.size s2.size)
   refine ⟨hSn,fun f78=>?_⟩;have szw16:=AP16.kept.size;replace s2:=hSn;clear hSn;refine R.p 11 f78 rfl s2 (E.assign f78 rfl) fun _ f78=>?_;have szw16r:=s2.size;replace HK:=HK.z s2;replace Bg0:=Bg0.z s2;replace FR:=FR.kept0 s2;clear s2;refine R.done (by kernel_rfl) (k5 _ _ ?_);have f78:=f78.pk [4];refine wp_ret ?_; (try simp only [xt,xb]); refine C.ret f78 rfl rfl ?_;have hnm : ¬ (mayB d = false ∨ hasB l d = true):=by rw [rightB_one] at hmy; simp [hmy,hhs]
   have e0 : addD l d = insD l d:=by unfold addD; rw [if_neg (by simp [hrb]),if_neg hnm]
   have e1:=insD_at l d k hq hend (by omega);have e : addD l d = l.take k ++ d :: l.drop k:=by rw [e0,e1,hx]; simp only; rw [if_pos (by simpa using hdx)]
   have el : (addD l d).length = 0 + k + 1 + (l.length - k):=by rw [e]; simp; omega
   refine ⟨HK,Az,cz,by rw [el]; rfl,?_⟩;rw [el,e];have ed : dcells (l.take k ++ d :: l.drop k) = [] ++ (dcells l).take (k * 3) ++ dcells [d] ++ (dcells l).drop (k * 3):=by rw [dcells_take,dcells_drop]; simp [dcells]
   rw [ed];exact FZ
  have hx : l[k]? = none:=List.getElem?_eq_none (by omega);refine R.ts 5 f77 rfl s1 f77.nT fun _ f77=>?_;refine R.ts 6 f77 rfl s1 f77.nT fun _ f77=>?_;refine R.ts 7 f77 rfl s1 f77.nT fun _ f77=>?_;refine R.ts 8 f77 rfl s1 f77.nT fun _ f77=>?_;refine R.ts 9 f77 rfl s1 f77.nT fun _ f77=>?_;refine R.ts 10 f77 rfl s1 f77.nT fun _ f77=>?_;refine R.ts 11 f77 rfl s1 f77.nT fun _ f77=>?_;refine R.p 12 f77 rfl s1 (E.pickF f77 rfl rfl) fun _ f77=>?_;have szw10r:=s1.size;replace HK:=HK.z s1;replace Bg0:=Bg0.z s1;replace FR:=FR.kept0 s1;clear s1;refine R.done (by kernel_rfl) (k4 _ _ ?_);have f77:=f77.pk [3,5,6,48];refine C.condF f77 rfl ?_;refine wp_skip (k2 _ _ ?_);have f77:=f77.pk [3,5,6];refine wp_seq_k fun _ k2=>?_;refine R.begin (S:=fun W=>Kept [] w10 W) (by kernel_rfl) (by exact (Kept.refl _ _).drewN 1) ?_;have s1 : Kept [] w10 (w10.drewN 1):=(Kept.refl _ _).drewN 1;have hd12 : Kept [] w10 (w10.drewN 1):=(Kept.refl _ _).drewN 1;obtain ⟨w11,hww11⟩ : ∃ W,W = w10.drewN 1:=⟨_,rfl⟩;rw [← hww11] at s1 hd12 ⊢;clear hww11;have szw11:=s1.size;refine R.mv 0 f77 rfl s1 fun _ f77=>?_;refine R.mv 1 f77 rfl s1 fun _ f77=>?_;refine R.p 2 f77 rfl s1 (E.slLhi f77 U32 Z3 rfl rfl (by omega) (by omega) ) fun _ f77=>?_;refine R.t 4 f77 rfl s1 (fun W hW=>(E.loadB f77 U46 rfl Z3 rfl (Bg0.z hW) rfl)) fun _ f77=>?_;refine R.mv 7 f77 rfl s1 fun _ f77=>?_;refine R.mv 8 f77 rfl s1 fun _ f77=>?_
  refine R.p 9 f77 rfl s1 (E.slLlo f77 U32 Z3 rfl rfl (by omega) (by omega) ) fun _ f77=>?_;refine R.two 3 5 (by kernel_rfl) ?_ ?_
  ·skip;refine O.append f77 rfl wantedN (by decide) U32 Z5 rfl rfl rfl rfl (Own.nil _ _ _) (Sl.of_own ((FR.kept0 s1).own.head (k:=k) (by omega))) (fun u hu=>dcells_one l u (List.mem_of_mem_take hu)) (by unfold maxLen; omega) (by omega) fun _ w12 Ax cx AP12=>?_;have kap12 : Kept [] w11 w12:=by simpa [Value.ownBlock] using AP12.kept
   have FX : Fresh w w12 46 3 Ax (0 + k) cx ([] ++ (dcells l).take (k * 3)):=AP12.next (Fresh.nil w w11 46 3) (Nat.le_trans HK.size s1.size)
   have FXr : Fresh w10 w12 46 3 Ax (0 + k) cx ([] ++ (dcells l).take (k * 3)):=AP12.next (Fresh.nil w10 w11 46 3) s1.size
   have hSn:=s1.trans kap12 (by simp);refine ⟨hSn,fun f78=>?_⟩;have szw12:=kap12.size;clear kap12;replace s1:=hSn;clear hSn;refine R.on 5 ?_;refine O.buildSlice f78 rfl wantedN (by decide) (parts1 f78 rfl) U32 Z6 rfl rfl (Z7 _ _ _) (fun _ hk=>s1.trans hk (by simp)) fun _ w13 g12 N hSn f78=>?_;obtain ⟨Bg12,q,log12,ltg12,szw13⟩:=N.al;have szSw13:=s1.size;replace FX:=FX.kept0 q;replace FXr:=FXr.kept0 q;clear N q;replace s1:=hSn;clear hSn;refine R.on 6 ?_;refine O.append f78 rfl wantedN (by decide) U32 Z5 rfl rfl rfl rfl (FX.own) (sl_one w13 g12 d Bg12) (fun u hu=>dcells_one [d] u hu) (by unfold maxLen; omega) (by omega) fun _ w14 Ay cy AP14=>?_;have hSn:=AP14.grow FXr s1;have FY:=AP14.next FX (Nat.le_trans HK.size s1.size)
   have FYr:=AP14.next FXr s1.size
   refine ⟨hSn,fun f78=>?_⟩;have szw14:=AP14.kept.size;replace s1:=hSn;clear hSn;refine R.on 10 ?_;refine O.append f78 rfl wantedN (by decide) U32 Z5 rfl rfl rfl rfl (FY.own) (Sl.of_own ((FR.kept0 s1).own.cut (k:=k) (by omega))) (fun u hu=>dcells_one l u (List.mem_of_mem_drop hu)) (by unfold maxLen; omega) (by omega) fun _ w15 Az cz AP15=>?_;have hSn:=AP15.grow FYr s1;have FZ:=AP15.next FY (Nat.le_trans HK.size s1.size)
   refine ⟨hSn,fun f78=>?_⟩;have szw15:=AP15.kept.size;replace s1:=hSn;clear hSn;refine R.p 11 f78 rfl s1 (E.assign f78 rfl) fun _ f78=>?_;have szw15r:=s1.size;replace HK:=HK.z s1;replace Bg0:=Bg0.z s1;replace FR:=FR.kept0 s1;clear s1;refine R.done (by kernel_rfl) (k2 _ _ ?_);have f78:=f78.pk [4];refine wp_ret ?_; (try simp only [xt,xb]); refine C.ret f78 rfl rfl ?_;have hnm : ¬ (mayB d = false ∨ hasB l d = true):=by rw [rightB_one] at hmy; simp [hmy,hhs]
   have e0 : addD l d = insD l d:=by unfold addD; rw [if_neg (by simp [hrb]),if_neg hnm]
   have e1:=insD_at l d k hq hend (by omega);have e : addD l d = l.take k ++ d :: l.drop k:=by rw [e0,e1,hx]; simp only; rw [List.take_of_length_le (by omega),List.drop_eq_nil_of_le (by omega)]
   have el : (addD l d).length = 0 + k + 1 + (l.length - k):=by rw [e]; simp; omega
   refine ⟨HK,Az,cz,by rw [el]; rfl,?_⟩;rw [el,e];have ed : dcells (l.take k ++ d :: l.drop k) = [] ++ (dcells l).take (k * 3) ++ dcells [d] ++ (dcells l).drop (k * 3):=by rw [dcells_take,dcells_drop]; simp [dcells]
   rw [ed];exact FZ
  skip;refine O.buildSlice f77 rfl wantedN (by decide) (parts1 f77 rfl) U32 Z6 rfl rfl (Z7 _ _ _) (fun _ hk=>s1.trans hk (by simp)) fun _ w12 g11 N hSn f77=>?_;obtain ⟨Bg11,q,log11,ltg11,szw12⟩:=N.al;have szSw12:=s1.size;clear N q;replace s1:=hSn;clear hSn;refine R.on 3 ?_;refine O.append f77 rfl wantedN (by decide) U32 Z5 rfl rfl rfl rfl (Own.nil _ _ _) (Sl.of_own ((FR.kept0 s1).own.head (k:=k) (by omega))) (fun u hu=>dcells_one l u (List.mem_of_mem_take hu)) (by unfold maxLen; omega) (by omega) fun _ w13 Ax cx AP13=>?_;have kap13 : Kept [] w12 w13:=by simpa [Value.ownBlock] using AP13.kept
  have FX : Fresh w w13 46 3 Ax (0 + k) cx ([] ++ (dcells l).take (k * 3)):=AP13.next (Fresh.nil w w12 46 3) (Nat.le_trans HK.size s1.size)
  have FXr : Fresh w10 w13 46 3 Ax (0 + k) cx ([] ++ (dcells l).take (k * 3)):=AP13.next (Fresh.nil w10 w12 46 3) s1.size
  have hSn:=s1.trans kap13 (by simp);refine ⟨hSn,fun f77=>?_⟩;have szw13:=kap13.size;replace Bg11:=Bg11.z kap13;clear kap13;replace s1:=hSn;clear hSn;refine R.on 6 ?_;refine O.append f77 rfl wantedN (by decide) U32 Z5 rfl rfl rfl rfl (FX.own) (sl_one w13 g11 d Bg11) (fun u hu=>dcells_one [d] u hu) (by unfold maxLen; omega) (by omega) fun _ w14 Ay cy AP14=>?_;have hSn:=AP14.grow FXr s1;have FY:=AP14.next FX (Nat.le_trans HK.size s1.size)
  have FYr:=AP14.next FXr s1.size
  refine ⟨hSn,fun f77=>?_⟩;have szw14:=AP14.kept.size;replace s1:=hSn;clear hSn;refine R.on 10 ?_;refine O.append f77 rfl wantedN (by decide) U32 Z5 rfl rfl rfl rfl (FY.own) (Sl.of_own ((FR.kept0 s1).own.cut (k:=k) (by omega))) (fun u hu=>dcells_one l u (List.mem_of_mem_drop hu)) (by unfold maxLen; omega) (by omega) fun _ w15 Az cz AP15=>?_;have hSn:=AP15.grow FYr s1;have FZ:=AP15.next FY (Nat.le_trans HK.size s1.size)
  refine ⟨hSn,fun f77=>?_⟩;have szw15:=AP15.kept.size;replace s1:=hSn;clear hSn;refine R.p 11 f77 rfl s1 (E.assign f77 rfl) fun _ f77=>?_;have szw15r:=s1.size;replace HK:=HK.z s1;replace Bg0:=Bg0.z s1;replace FR:=FR.kept0 s1;clear s1;refine R.done (by kernel_rfl) (k2 _ _ ?_);have f77:=f77.pk [4];refine wp_ret ?_; (try simp only [xt,xb]); refine C.ret f77 rfl rfl ?_;have hnm : ¬ (mayB d = false ∨ hasB l d = true):=by rw [rightB_one] at hmy; simp [hmy,hhs]
  have e0 : addD l d = insD l d:=by unfold addD; rw [if_neg (by simp [hrb]),if_neg hnm]
  have e1:=insD_at l d k hq hend (by omega);have e : addD l d = l.take k ++ d :: l.drop k:=by rw [e0,e1,hx]; simp only; rw [List.take_of_length_le (by omega),List.drop_eq_nil_of_le (by omega)]
  have el : (addD l d).length = 0 + k + 1 + (l.length - k):=by rw [e]; simp; omega
  refine ⟨HK,Az,cz,by rw [el]; rfl,?_⟩;rw [el,e];have ed : dcells (l.take k ++ d :: l.drop k) = [] ++ (dcells l).take (k * 3) ++ dcells [d] ++ (dcells l).drop (k * 3):=by rw [dcells_take,dcells_drop]; simp [dcells]
  rw [ed];exact FZ
 have hx : l[k]? = none:=List.getElem?_eq_none (by omega);refine R.ts 5 f rfl s f.nT fun _ f=>?_;refine R.ts 6 f rfl s f.nT fun _ f=>?_;refine R.ts 7 f rfl s f.nT fun _ f=>?_;refine R.ts 8 f rfl s f.nT fun _ f=>?_;refine R.ts 9 f rfl s f.nT fun _ f=>?_;refine R.ts 10 f rfl s f.nT fun _ f=>?_;refine R.p 11 f rfl s (E.pickF f rfl rfl) fun _ f=>?_;have szw8r:=s.size;replace HK:=HK.z s;replace Bg0:=Bg0.z s;replace FR:=FR.kept0 s;clear s;refine R.done (by kernel_rfl) (k3 _ _ ?_);have f:=f.pk [3,5,6,22,23,24,25,26,27,28,29,30,31,32,33];refine C.condF f rfl ?_;refine wp_exit (k1 _ _ ?_);have f:=f.pk [3,5,6];refine wp_seq_k fun _ k1=>?_;refine wp_seq_k fun _ k2=>?_;have hend : ∀ y,l[k]? = some y → ¬ lt2 y d:=fun y hy=>by rw [hx] at hy; cases hy
 refine R.begin (S:=fun W=>Kept [] w8 W) (by kernel_rfl) (by exact (Kept.refl _ _).drewN 1) ?_;have s : Kept [] w8 (w8.drewN 1):=(Kept.refl _ _).drewN 1;have hd9 : Kept [] w8 (w8.drewN 1):=(Kept.refl _ _).drewN 1;obtain ⟨w9,hww9⟩ : ∃ W,W = w8.drewN 1:=⟨_,rfl⟩;rw [← hww9] at s hd9 ⊢;clear hww9;have szw9:=s.size;refine R.mv 0 f rfl s fun _ f=>?_;refine R.mv 1 f rfl s fun _ f=>?_;refine R.p 2 f rfl s (E.lenL f U32 rfl) fun _ f=>?_;refine R.p 3 f rfl s (E.lss f rfl rfl) fun _ f=>?_;refine R.mv 4 f rfl s fun _ f=>?_;refine f.splitD 40 rfl (fun h7 f=>?_) (fun h7 f=>?_)
 ·obtain ⟨x,hx⟩ : ∃ x,l[k]? = some x:=⟨l[k]'(by omega),List.getElem?_eq_getElem _⟩;obtain ⟨bk,off,hAo⟩:=FR.sl.addr (by omega);have hnx:=hend x hx;refine R.t 5 f rfl s (fun W hW=>(E.loadB f U46 rfl Z3 rfl (Bg0.z hW) rfl)) (hw:=f.y) fun _ f77=>?_;refine R.mv 6 f77 rfl s (hw:=f77.y) fun _ f77=>?_;refine R.mv 7 f77 rfl s (hw:=f77.y) fun _ f77=>?_;refine R.p 8 f77 rfl s (E.indexA f77 (by assumption) U32 Z3 rfl rfl (by omega) (by omega)) (hw:=f77.y) fun _ f77=>?_;refine R.t 9 f77 rfl s (fun W hW=>(E.loadR f77 U46 rfl Z3 rfl ((FR.kept0 hW).sl.row (by omega) hAo (dcells_at l k x hx)) rfl)) (hw:=f77.y) fun _ f77=>?_;refine R.call 10 f77 rfl rfl (by decide) (by kernel_rfl) f77.y (rc2 f77 Tryz.call78) (ahead_any _ _ _) ?_;rintro e w10 ⟨q,rfl⟩;replace s:=s.trans q (by simp);refine ⟨_,rfl,s,fun _ f77=>?_⟩;have szw10:=q.size;clear q;refine R.p 11 f77 rfl s (E.not f77 rfl) (hw:=f77.y) fun _ f77=>?_;refine R.p 12 f77 rfl s (E.pickT f77 rfl rfl) fun _ f77=>?_;have szw10r:=s.size;replace HK:=HK.z s;replace Bg0:=Bg0.z s;replace FR:=FR.kept0 s;clear s;refine R.done (by kernel_rfl) (k2 _ _ ?_);have f77:=f77.pk [3,5,6,48];refine f77.splitN 48 rfl (fun h8 f77=>?_) (fun h8 f77=>?_)
  ·have hdx:=h8;refine C.condT f77 rfl ?_;refine C.sk fun _ k3=>?_;refine L.mv f77 fun _ f78=>?_;refine L.mv f78 fun _ f78=>?_;refine L.fa 2 f78 U46 rfl Z0 fun _ f78=>?_;refine L.va f78 (E.load f78 U3 rfl rfl ((Bg0).cl rfl)) fun _ f78=>?_;refine L.va f78 (E.indexA f78 (by assumption) U32 Z3 rfl rfl (by omega) (by omega)) fun _ f78=>?_;refine L.fa 2 f78 U46 rfl Z0 fun _ f78=>?_;refine L.storeF f78 wantedN Z0 hAo FR (j:=k * 3 + 2) rfl (by rw [dcells_len]; omega) rfl rfl fun _ w11 f78 FS ks loS=>?_;have FS2 : Fresh w w11 46 3 Ao l.length co ((dcells l).set (k * 3 + 2) (.int .i64 d.n)):=FS;rw [dcells_set l k x d.n hx] at FS2;replace HK:=HK.trans ks (by intro x hx hlt; simp at hx; subst hx; exfalso; omega);have f78:=f78.pk [3,5,6];refine wn k3 (C.sk fun _ k3=>?_);refine L.mv f78 fun _ f78=>?_;refine L.ag f78 fun _ f78=>?_;have f78:=f78.pk [3,4,5,6];refine wn k3 (wp_ret ?_); (try simp only [xt,xb]); refine C.ret f78 rfl rfl ?_;have hnm : ¬ (mayB d = false ∨ hasB l d = true):=by rw [rightB_one] at hmy; simp [hmy,hhs]
   have e0 : addD l d = insD l d:=by unfold addD; rw [if_neg (by simp [hrb]),if_neg hnm]
   have e1:=insD_at l d k hq hend (by omega);have e : addD l d = l.set k { x with n:=d.n }:=by rw [e0,e1,hx]; simp only; rw [if_neg (by simpa using hdx)]
   have el : (l.set k { x with n:=d.n }).length = l.length:=List.length_set;refine ⟨HK,Ao,co,by rw [e,el],?_⟩;rw [e,el];exact FS2
  have hdx:=h8;refine C.condF f77 rfl ?_;refine wp_skip (k1 _ _ ?_);have f77:=f77.pk [3,5,6];refine wp_seq_k fun _ k3=>?_;refine R.begin (S:=fun W=>Kept [] w10 W) (by kernel_rfl) (by exact (Kept.refl _ _).drewN 1) ?_;have s1 : Kept [] w10 (w10.drewN 1):=(Kept.refl _ _).drewN 1;have hd12 : Kept [] w10 (w10.drewN 1):=(Kept.refl _ _).drewN 1;obtain ⟨w11,hww11⟩ : ∃ W,W = w10.drewN 1:=⟨_,rfl⟩;rw [← hww11] at s1 hd12 ⊢;clear hww11;have szw11:=s1.size;refine R.mv 0 f77 rfl s1 fun _ f77=>?_;refine R.mv 1 f77 rfl s1 fun _ f77=>?_;refine R.p 2 f77 rfl s1 (E.slLhi f77 U32 Z3 rfl rfl (by omega) (by omega) ) fun _ f77=>?_;refine R.t 4 f77 rfl s1 (fun W hW=>(E.loadB f77 U46 rfl Z3 rfl (Bg0.z hW) rfl)) fun _ f77=>?_;refine R.mv 7 f77 rfl s1 fun _ f77=>?_;refine R.mv 8 f77 rfl s1 fun _ f77=>?_;refine R.p 9 f77 rfl s1 (E.slLlo f77 U32 Z3 rfl rfl (by omega) (by omega) ) fun _ f77=>?_;refine R.two 3 5 (by kernel_rfl) ?_ ?_
  ·skip;refine O.append f77 rfl wantedN (by decide) U32 Z5 rfl rfl rfl rfl (Own.nil _ _ _) (Sl.of_own ((FR.kept0 s1).own.head (k:=k) (by omega))) (fun u hu=>dcells_one l u (List.mem_of_mem_take hu)) (by unfold maxLen; omega) (by omega) fun _ w12 Ax cx AP12=>?_;have kap12 : Kept [] w11 w12:=by simpa [Value.ownBlock] using AP12.kept
   have FX : Fresh w w12 46 3 Ax (0 + k) cx ([] ++ (dcells l).take (k * 3)):=AP12.next (Fresh.nil w w11 46 3) (Nat.le_trans HK.size s1.size)
   have FXr : Fresh w10 w12 46 3 Ax (0 + k) cx ([] ++ (dcells l).take (k * 3)):=AP12.next (Fresh.nil w10 w11 46 3) s1.size
   have hSn:=s1.trans kap12 (by simp);refine ⟨hSn,fun f78=>?_⟩;have szw12:=kap12.size;clear kap12;replace s1:=hSn;clear hSn;refine R.on 5 ?_;refine O.buildSlice f78 rfl wantedN (by decide) (parts1 f78 rfl) U32 Z6 rfl rfl (Z7 _ _ _) (fun _ hk=>s1.trans hk (by simp)) fun _ w13 g12 N hSn f78=>?_;obtain ⟨Bg12,q,log12,ltg12,szw13⟩:=N.al;have szSw13:=s1.size;replace FX:=FX.kept0 q;replace FXr:=FXr.kept0 q;clear N q;replace s1:=hSn;clear hSn;refine R.on 6 ?_;refine O.append f78 rfl wantedN (by decide) U32 Z5 rfl rfl rfl rfl (FX.own) (sl_one w13 g12 d Bg12) (fun u hu=>dcells_one [d] u hu) (by unfold maxLen; omega) (by omega) fun _ w14 Ay cy AP14=>?_;have hSn:=AP14.grow FXr s1;have FY:=AP14.next FX (Nat.le_trans HK.size s1.size)
   have FYr:=AP14.next FXr s1.size
   refine ⟨hSn,fun f78=>?_⟩;have szw14:=AP14.kept.size;replace s1:=hSn;clear hSn;refine R.on 10 ?_;refine O.append f78 rfl wantedN (by decide) U32 Z5 rfl rfl rfl rfl (FY.own) (Sl.of_own ((FR.kept0 s1).own.cut (k:=k) (by omega))) (fun u hu=>dcells_one l u (List.mem_of_mem_drop hu)) (by unfold maxLen; omega) (by omega) fun _ w15 Az cz AP15=>?_;have hSn:=AP15.grow FYr s1;have FZ:=AP15.next FY (Nat.le_trans HK.size s1.size)
   refine ⟨hSn,fun f78=>?_⟩;have szw15:=AP15.kept.size;replace s1:=hSn;clear hSn;refine R.p 11 f78 rfl s1 (E.assign f78 rfl) fun _ f78=>?_;have szw15r:=s1.size;replace HK:=HK.z s1;replace Bg0:=Bg0.z s1;replace FR:=FR.kept0 s1;clear s1;refine R.done (by kernel_rfl) (k3 _ _ ?_);have f78:=f78.pk [4];refine wp_ret ?_; (try simp only [xt,xb]); refine C.ret f78 rfl rfl ?_;have hnm : ¬ (mayB d = false ∨ hasB l d = true):=by rw [rightB_one] at hmy; simp [hmy,hhs]
   have e0 : addD l d = insD l d:=by unfold addD; rw [if_neg (by simp [hrb]),if_neg hnm]
   have e1:=insD_at l d k hq hend (by omega);have e : addD l d = l.take k ++ d :: l.drop k:=by rw [e0,e1,hx]; simp only; rw [if_pos (by simpa using hdx)]
   have el : (addD l d).length = 0 + k + 1 + (l.length - k):=by rw [e]; simp; omega
   refine ⟨HK,Az,cz,by rw [el]; rfl,?_⟩;rw [el,e];have ed : dcells (l.take k ++ d :: l.drop k) = [] ++ (dcells l).take (k * 3) ++ dcells [d] ++ (dcells l).drop (k * 3):=by rw [dcells_take,dcells_drop]; simp [dcells]
   rw [ed];exact FZ
  skip;refine O.buildSlice f77 rfl wantedN (by decide) (parts1 f77 rfl) U32 Z6 rfl rfl (Z7 _ _ _) (fun _ hk=>s1.trans hk (by simp)) fun _ w12 g11 N hSn f77=>?_;obtain ⟨Bg11,q,log11,ltg11,szw12⟩:=N.al;have szSw12:=s1.size;clear N q;replace s1:=hSn;clear hSn;refine R.on 3 ?_;refine O.append f77 rfl wantedN (by decide) U32 Z5 rfl rfl rfl rfl (Own.nil _ _ _) (Sl.of_own ((FR.kept0 s1).own.head (k:=k) (by omega))) (fun u hu=>dcells_one l u (List.mem_of_mem_take hu)) (by unfold maxLen; omega) (by omega) fun _ w13 Ax cx AP13=>?_;have kap13 : Kept [] w12 w13:=by simpa [Value.ownBlock] using AP13.kept
  have FX : Fresh w w13 46 3 Ax (0 + k) cx ([] ++ (dcells l).take (k * 3)):=AP13.next (Fresh.nil w w12 46 3) (Nat.le_trans HK.size s1.size)
  have FXr : Fresh w10 w13 46 3 Ax (0 + k) cx ([] ++ (dcells l).take (k * 3)):=AP13.next (Fresh.nil w10 w12 46 3) s1.size
  have hSn:=s1.trans kap13 (by simp);refine ⟨hSn,fun f77=>?_⟩;have szw13:=kap13.size;replace Bg11:=Bg11.z kap13;clear kap13;replace s1:=hSn;clear hSn;refine R.on 6 ?_;refine O.append f77 rfl wantedN (by decide) U32 Z5 rfl rfl rfl rfl (FX.own) (sl_one w13 g11 d Bg11) (fun u hu=>dcells_one [d] u hu) (by unfold maxLen; omega) (by omega) fun _ w14 Ay cy AP14=>?_;have hSn:=AP14.grow FXr s1;have FY:=AP14.next FX (Nat.le_trans HK.size s1.size)
  have FYr:=AP14.next FXr s1.size
  refine ⟨hSn,fun f77=>?_⟩;have szw14:=AP14.kept.size;replace s1:=hSn;clear hSn;refine R.on 10 ?_;refine O.append f77 rfl wantedN (by decide) U32 Z5 rfl rfl rfl rfl (FY.own) (Sl.of_own ((FR.kept0 s1).own.cut (k:=k) (by omega))) (fun u hu=>dcells_one l u (List.mem_of_mem_drop hu)) (by unfold maxLen; omega) (by omega) fun _ w15 Az cz AP15=>?_;have hSn:=AP15.grow FYr s1;have FZ:=AP15.next FY (Nat.le_trans HK.size s1.size)
  refine ⟨hSn,fun f77=>?_⟩;have szw15:=AP15.kept.size;replace s1:=hSn;clear hSn;refine R.p 11 f77 rfl s1 (E.assign f77 rfl) fun _ f77=>?_;have szw15r:=s1.size;replace HK:=HK.z s1;replace Bg0:=Bg0.z s1;replace FR:=FR.kept0 s1;clear s1;refine R.done (by kernel_rfl) (k3 _ _ ?_);have f77:=f77.pk [4];refine wp_ret ?_; (try simp only [xt,xb]); refine C.ret f77 rfl rfl ?_;have hnm : ¬ (mayB d = false ∨ hasB l d = true):=by rw [rightB_one] at hmy; simp [hmy,hhs]
  have e0 : addD l d = insD l d:=by unfold addD; rw [if_neg (by simp [hrb]),if_neg hnm]
  have e1:=insD_at l d k hq hend (by omega);have e : addD l d = l.take k ++ d :: l.drop k:=by rw [e0,e1,hx]; simp only; rw [if_pos (by simpa using hdx)]
  have el : (addD l d).length = 0 + k + 1 + (l.length - k):=by rw [e]; simp; omega
  refine ⟨HK,Az,cz,by rw [el]; rfl,?_⟩;rw [el,e];have ed : dcells (l.take k ++ d :: l.drop k) = [] ++ (dcells l).take (k * 3) ++ dcells [d] ++ (dcells l).drop (k * 3):=by rw [dcells_take,dcells_drop]; simp [dcells]
  rw [ed];exact FZ
 have hx : l[k]? = none:=List.getElem?_eq_none (by omega);refine R.ts 5 f rfl s f.nT fun _ f=>?_;refine R.ts 6 f rfl s f.nT fun _ f=>?_;refine R.ts 7 f rfl s f.nT fun _ f=>?_;refine R.ts 8 f rfl s f.nT fun _ f=>?_;refine R.ts 9 f rfl s f.nT fun _ f=>?_;refine R.ts 10 f rfl s f.nT fun _ f=>?_;refine R.ts 11 f rfl s f.nT fun _ f=>?_;refine R.p 12 f rfl s (E.pickF f rfl rfl) fun _ f=>?_;have szw9r:=s.size;replace HK:=HK.z s;replace Bg0:=Bg0.z s;replace FR:=FR.kept0 s;clear s;refine R.done (by kernel_rfl) (k2 _ _ ?_);have f:=f.pk [3,5,6,48];refine C.condF f rfl ?_;refine wp_skip (k1 _ _ ?_);have f:=f.pk [3,5,6];refine wp_seq_k fun _ k1=>?_;refine R.begin (S:=fun W=>Kept [] w9 W) (by kernel_rfl) (by exact (Kept.refl _ _).drewN 1) ?_;have s : Kept [] w9 (w9.drewN 1):=(Kept.refl _ _).drewN 1;have hd12 : Kept [] w9 (w9.drewN 1):=(Kept.refl _ _).drewN 1;obtain ⟨w10,hww10⟩ : ∃ W,W = w9.drewN 1:=⟨_,rfl⟩;rw [← hww10] at s hd12 ⊢;clear hww10;have szw10:=s.size;refine R.mv 0 f rfl s fun _ f=>?_;refine R.mv 1 f rfl s fun _ f=>?_;refine R.p 2 f rfl s (E.slLhi f U32 Z3 rfl rfl (by omega) (by omega) ) fun _ f=>?_;refine R.t 4 f rfl s (fun W hW=>(E.loadB f U46 rfl Z3 rfl (Bg0.z hW) rfl)) fun _ f=>?_;refine R.mv 7 f rfl s fun _ f=>?_;refine R.mv 8 f rfl s fun _ f=>?_;refine R.p 9 f rfl s (E.slLlo f U32 Z3 rfl rfl (by omega) (by omega) ) fun _ f=>?_;refine R.two 3 5 (by kernel_rfl) ?_ ?_
 ·skip;refine O.append f rfl wantedN (by decide) U32 Z5 rfl rfl rfl rfl (Own.nil _ _ _) (Sl.of_own ((FR.kept0 s).own.head (k:=k) (by omega))) (fun u hu=>dcells_one l u (List.mem_of_mem_take hu)) (by unfold maxLen; omega) (by omega) fun _ w11 Ax cx AP11=>?_;have kap11 : Kept [] w10 w11:=by simpa [Value.ownBlock] using AP11.kept
  have FX : Fresh w w11 46 3 Ax (0 + k) cx ([] ++ (dcells l).take (k * 3)):=AP11.next (Fresh.nil w w10 46 3) (Nat.le_trans HK.size s.size)
  have FXr : Fresh w9 w11 46 3 Ax (0 + k) cx ([] ++ (dcells l).take (k * 3)):=AP11.next (Fresh.nil w9 w10 46 3) s.size
  have hSn:=s.trans kap11 (by simp);refine ⟨hSn,fun f77=>?_⟩;have szw11:=kap11.size;clear kap11;replace s:=hSn;clear hSn;refine R.on 5 ?_;refine O.buildSlice f77 rfl wantedN (by decide) (parts1 f77 rfl) U32 Z6 rfl rfl (Z7 _ _ _) (fun _ hk=>s.trans hk (by simp)) fun _ w12 g11 N hSn f77=>?_;obtain ⟨Bg11,q,log11,ltg11,szw12⟩:=N.al;have szSw12:=s.size;replace FX:=FX.kept0 q;replace FXr:=FXr.kept0 q;clear N q;replace s:=hSn;clear hSn;refine R.on 6 ?_;refine O.append f77 rfl wantedN (by decide) U32 Z5 rfl rfl rfl rfl (FX.own) (sl_one w12 g11 d Bg11) (fun u hu=>dcells_one [d] u hu) (by unfold maxLen; omega) (by omega) fun _ w13 Ay cy AP13=>?_;have hSn:=AP13.grow FXr s;have FY:=AP13.next FX (Nat.le_trans HK.size s.size)
  have FYr:=AP13.next FXr s.size
  refine ⟨hSn,fun f77=>?_⟩;have szw13:=AP13.kept.size;replace s:=hSn;clear hSn;refine R.on 10 ?_;refine O.append f77 rfl wantedN (by decide) U32 Z5 rfl rfl rfl rfl (FY.own) (Sl.of_own ((FR.kept0 s).own.cut (k:=k) (by omega))) (fun u hu=>dcells_one l u (List.mem_of_mem_drop hu)) (by unfold maxLen; omega) (by omega) fun _ w14 Az cz AP14=>?_;have hSn:=AP14.grow FYr s;have FZ:=AP14.next FY (Nat.le_trans HK.size s.size)
  refine ⟨hSn,fun f77=>?_⟩;have szw14:=AP14.kept.size;replace s:=hSn;clear hSn;refine R.p 11 f77 rfl s (E.assign f77 rfl) fun _ f77=>?_;have szw14r:=s.size;replace HK:=HK.z s;replace Bg0:=Bg0.z s;replace FR:=FR.kept0 s;clear s;refine R.done (by kernel_rfl) (k1 _ _ ?_);have f77:=f77.pk [4];refine wp_ret ?_; (try simp only [xt,xb]); refine C.ret f77 rfl rfl ?_;have hnm : ¬ (mayB d = false ∨ hasB l d = true):=by rw [rightB_one] at hmy; simp [hmy,hhs]
  have e0 : addD l d = insD l d:=by unfold addD; rw [if_neg (by simp [hrb]),if_neg hnm]
  have e1:=insD_at l d k hq hend (by omega);have e : addD l d = l.take k ++ d :: l.drop k:=by rw [e0,e1,hx]; simp only; rw [List.take_of_length_le (by omega),List.drop_eq_nil_of_le (by omega)]
  have el : (addD l d).length = 0 + k + 1 + (l.length - k):=by rw [e]; simp; omega
  refine ⟨HK,Az,cz,by rw [el]; rfl,?_⟩;rw [el,e];have ed : dcells (l.take k ++ d :: l.drop k) = [] ++ (dcells l).take (k * 3) ++ dcells [d] ++ (dcells l).drop (k * 3):=by rw [dcells_take,dcells_drop]; simp [dcells]
  rw [ed];exact FZ
 skip;refine O.buildSlice f rfl wantedN (by decide) (parts1 f rfl) U32 Z6 rfl rfl (Z7 _ _ _) (fun _ hk=>s.trans hk (by simp)) fun _ w11 g10 N hSn f=>?_;obtain ⟨Bg10,q,log10,ltg10,szw11⟩:=N.al;have szSw11:=s.size;clear N q;replace s:=hSn;clear hSn;refine R.on 3 ?_;refine O.append f rfl wantedN (by decide) U32 Z5 rfl rfl rfl rfl (Own.nil _ _ _) (Sl.of_own ((FR.kept0 s).own.head (k:=k) (by omega))) (fun u hu=>dcells_one l u (List.mem_of_mem_take hu)) (by unfold maxLen; omega) (by omega) fun _ w12 Ax cx AP12=>?_;have kap12 : Kept [] w11 w12:=by simpa [Value.ownBlock] using AP12.kept
 have FX : Fresh w w12 46 3 Ax (0 + k) cx ([] ++ (dcells l).take (k * 3)):=AP12.next (Fresh.nil w w11 46 3) (Nat.le_trans HK.size s.size)
 have FXr : Fresh w9 w12 46 3 Ax (0 + k) cx ([] ++ (dcells l).take (k * 3)):=AP12.next (Fresh.nil w9 w11 46 3) s.size
 have hSn:=s.trans kap12 (by simp);refine ⟨hSn,fun f=>?_⟩;have szw12:=kap12.size;replace Bg10:=Bg10.z kap12;clear kap12;replace s:=hSn;clear hSn;refine R.on 6 ?_;refine O.append f rfl wantedN (by decide) U32 Z5 rfl rfl rfl rfl (FX.own) (sl_one w12 g10 d Bg10) (fun u hu=>dcells_one [d] u hu) (by unfold maxLen; omega) (by omega) fun _ w13 Ay cy AP13=>?_;have hSn:=AP13.grow FXr s;have FY:=AP13.next FX (Nat.le_trans HK.size s.size)
 have FYr:=AP13.next FXr s.size
 refine ⟨hSn,fun f=>?_⟩;have szw13:=AP13.kept.size;replace s:=hSn;clear hSn;refine R.on 10 ?_;refine O.append f rfl wantedN (by decide) U32 Z5 rfl rfl rfl rfl (FY.own) (Sl.of_own ((FR.kept0 s).own.cut (k:=k) (by omega))) (fun u hu=>dcells_one l u (List.mem_of_mem_drop hu)) (by unfold maxLen; omega) (by omega) fun _ w14 Az cz AP14=>?_;have hSn:=AP14.grow FYr s;have FZ:=AP14.next FY (Nat.le_trans HK.size s.size)
 refine ⟨hSn,fun f=>?_⟩;have szw14:=AP14.kept.size;replace s:=hSn;clear hSn;refine R.p 11 f rfl s (E.assign f rfl) fun _ f=>?_;have szw14r:=s.size;replace HK:=HK.z s;replace Bg0:=Bg0.z s;replace FR:=FR.kept0 s;clear s;refine R.done (by kernel_rfl) (k1 _ _ ?_);have f:=f.pk [4];refine wp_ret ?_; (try simp only [xt,xb]); refine C.ret f rfl rfl ?_;have hnm : ¬ (mayB d = false ∨ hasB l d = true):=by rw [rightB_one] at hmy; simp [hmy,hhs]
 have e0 : addD l d = insD l d:=by unfold addD; rw [if_neg (by simp [hrb]),if_neg hnm]
 have e1:=insD_at l d k hq hend (by omega);have e : addD l d = l.take k ++ d :: l.drop k:=by rw [e0,e1,hx]; simp only; rw [List.take_of_length_le (by omega),List.drop_eq_nil_of_le (by omega)]
 have el : (addD l d).length = 0 + k + 1 + (l.length - k):=by rw [e]; simp; omega
 refine ⟨HK,Az,cz,by rw [el]; rfl,?_⟩;rw [el,e];have ed : dcells (l.take k ++ d :: l.drop k) = [] ++ (dcells l).take (k * 3) ++ dcells [d] ++ (dcells l).drop (k * 3):=by rw [dcells_take,dcells_drop]; simp [dcells]
 rw [ed];exact FZ
end Go.Proofs.YtekmhcdgmgbheaaGreatDoor
namespace Go.Proofs.YtekmhcdgmgbheaaGreatDoor
open Go.RowKit Go.Hub
def InsPost (l : List Dt) (A : Option Addr) (c i : Nat) (d : Dt) (w : World) (e : Ending) (w' : World) : Prop:=
  ∃ A' c',e = .returned (.slice A' (l.length + 1) c') ∧ Own w' 46 3 (.slice A' (l.length + 1) c') (l.length + 1) (dcells (l.take i ++ d :: l.drop i)) ∧ Kept ((Value.slice A l.length c).ownBlock.toList) w w' ∧ (∀ b,A'.map (·.block) = some b → A.map (·.block) = some b ∨ w.heap.size ≤ b)
theorem own_cap {w : World} {e : TypeId} {size n c : Nat} {A : Option Addr} {xs : List Value} (h : Own w e size (.slice A n c) n xs) : n ≤ c:=by
  obtain ⟨A',c',e',h1,_⟩:=h.form
  injection e' with _ _ e3
  omega
theorem ins_len1 (l : List Dt) (i : Nat) (hi : i ≤ l.length) : ((dcells l).take (i * 3) ++ (Builtin.zeroCells (Value.agg #[(.int .i64 0),(.int .i64 0),(.int .i64 0)]).cells (l.length + 1 - i)).toList).length = (l.length + 1) * 3:=by
  rw [List.length_append,List.length_take,dcells_len,Nat.min_eq_left (Nat.mul_le_mul_right _ hi)];simp [Builtin.zeroCells,Value.cells];omega
theorem ins_min1 {d : Dt} {k : Nat} (h : 1 ≤ k) : (dcells [d]).take (Nat.min 1 k * 3) = dcells [d]:=by
  rw [show Nat.min 1 k = 1 from Nat.min_eq_left h]
  rfl
theorem ins_min2 {a b : Nat} (h : a ≤ b) : Nat.min a b = a:=Nat.min_eq_left h
theorem ins_min3 {l : List Dt} {i : Nat} {jk : List Value} (hj : jk.length = 1 * 3) (hi : i ≤ l.length) : (dcells l).drop (i * 3) = ((dcells l ++ jk).drop (i * 3)).take (Nat.min (l.length + 1 - i) (l.length + 1 - (i + 1)) * 3):=by
  rw [show Nat.min (l.length + 1 - i) (l.length + 1 - (i + 1)) = l.length - i by show Min.min _ _ = _; omega];rw [List.drop_append,List.take_append,show i * 3 - (dcells l).length = 0 by rw [dcells_len]; omega,List.length_drop,dcells_len,show (l.length - i) * 3 - (l.length * 3 - i * 3) = 0 by omega];rw [List.take_of_length_le (by rw [List.length_drop,dcells_len]; omega)]
  simp
theorem overlaps_no {n : Nat} {a : Act} {l : FL} {w : World} {dst : Option Nat} {ty : TypeId} {ps : String} {af : Array Edge} {g : Option (Nat × Bool)} {x y : Operand} {ats : Array TypeId} {vb b off m c lb cb off2 : Nat} {d : Dt} {xs : List Value} (f : Fr n a l) (hx : evl l x = some (.slice (some ⟨vb, 0, none⟩) 1 1)) (hy : evl l y = some (.slice (some ⟨b, off2, none⟩) lb cb))
    (BV : Blk w vb 46 (dcell d).toArray) (O : Own w 46 3 (.slice (some ⟨b,off,none⟩) m c) m xs) (hne : b ≠ vb) (hm : 0 < m:=by omega) :
    (execOp a.eval ⟨dst,.call { callee:=.value (.func 125),args:=#[x,y],argTypes:=ats },ty,ps,af,g⟩).run Tryz.prog w = .ok (.value (.bool false)) w:=by
  obtain ⟨_,cs,h2⟩:=O.blk b rfl
  have hcs : cs.size ≠ 0:=by
    rcases O.2 with ⟨hv,_⟩ | ⟨g',off',cap',cur,hv,hg,hnc,hcm,hcs,_⟩
    · cases hv
    injection hv with e1 e2 e3
    injection e1 with e1
    injection e1 with e4 e5
    subst e4;rw [h2] at hg
    injection hg with hg
    injection hg with hg _ _
    subst hg;have : m * 3 ≤ cap' * 3:=Nat.mul_le_mul_right _ hnc;omega
  have e : execOp a.eval ⟨dst,.call { callee:=.value (.func 125),args:=#[x,y],argTypes:=ats },ty,ps,af,g⟩ = callFunc 125 (#[] ++ #[x,y].map a.eval ++ #[]):=rfl;have e2 : (#[] ++ #[x,y].map a.eval ++ #[] : Array Value) = #[.slice (some ⟨vb,0,none⟩) 1 1,.slice (some ⟨b,off2,none⟩) lb cb]:=by simp [f.ev hx,f.ev hy]
  rw [e, e2, run_callFunc_extern Tryz.func125 (by kernel_rfl) (by kernel_rfl) (by kernel_rfl) (e := Extern.SlicesOverlaps.overlaps #[32, 32] #[4]) (by kernel_rfl),
    Lib.run_overlaps_apart w 32 4 46 U32 3 (fun w=>by kernel_rfl) ⟨vb,0,none⟩ ⟨b,off2,none⟩ 1 1 lb cb (fun h=>hne h.symm) 46 46 3 cs.size (by unfold World.shape?; rw [show w.heap[vb]? = _ from BV]; rfl) (by unfold World.shape?; rw [h2]) hcs (BV.frozen 0) (BV.frozen 3)]
  rfl
section
variable {l : List Dt} {A : Option Addr} {c i : Nat} {d : Dt} {w W : World}
theorem ins_end {w1 : World} {Ax : Option Addr} {cx : Nat} (hin : (i : Int) = l.length) (hi : i ≤ l.length) (O : Own w 46 3 (.slice A l.length c) l.length (dcells l)) (HK : Kept [] w w1) (ap : App w1 W 46 3 A l.length c (dcells l) (dcell d) 1 Ax cx) : InsPost l A c i d w (.returned (.slice Ax (l.length + 1) cx)) W:=by
  obtain rfl : i = l.length:=by omega
  refine ⟨Ax,cx,rfl,?_,(HK.mono (by simp)).trans ap.kept (fun x hx _=>hx),fun b hb=>(ap.where_ b hb).imp_right fun h=>Nat.le_trans HK.size h⟩;rw [List.take_length,List.drop_length,dcells_append];exact ap.own
theorem ins_parts (l : List Dt) (i : Nat) (d : Dt) : dcells (l.take i ++ d :: l.drop i) = dcells (l.take i) ++ dcell d ++ (dcells l).drop (i * 3):=by
  rw [dcells_append,dcells_drop,List.append_assoc]
  rfl
theorem ins_grow {g c2 : Nat} (hi : i ≤ l.length) (hg : w.heap.size ≤ g) (O : Own W 46 3 (.slice (some ⟨g, 0, none⟩) (i + (l.length + 1 - i)) c2) (i + (l.length + 1 - i)) (setSeg (setSeg ((dcells l).take (i * 3) ++ (Builtin.zeroCells (Value.agg #[(.int .i64 0), (.int .i64 0), (.int .i64 0)]).cells (l.length + 1 - i)).toList) (i * 3) (dcell d)) ((i + 1) * 3) ((dcells l).drop (i * 3))))
    (HK : Kept ((Value.slice A l.length c).ownBlock.toList) w W) : InsPost l A c i d w (.returned (.slice (some ⟨g,0,none⟩) (i + (l.length + 1 - i)) c2)) W:=by
  have hx : (dcells (l.take i)).length = i * 3:=by rw [dcells_len,List.length_take,Nat.min_eq_left hi]
  have h := seg_a (W := (dcells l).take (i * 3) ++ (Builtin.zeroCells (Value.agg #[(.int .i64 0), (.int .i64 0), (.int .i64 0)]).cells (l.length + 1 - i)).toList) (X := dcells (l.take i)) (Y := dcell d) (Z := (dcells l).drop (i * 3))
    (by rw [ins_len1 l i hi,hx,List.length_drop,dcells_len]; show _ = i * 3 + 3 + _; omega) (by rw [hx,List.take_append,List.take_take,List.length_take,dcells_len,← dcells_take]; simp; omega)
  rw [hx,show i * 3 + (dcell d).length = (i + 1) * 3 by show i * 3 + 3 = _; omega,← ins_parts] at h;rw [h,show i + (l.length + 1 - i) = l.length + 1 by omega] at O;refine ⟨some ⟨g,0,none⟩,c2,by rw [show i + (l.length + 1 - i) = l.length + 1 by omega],O,HK,fun b hb=>.inr ?_⟩;simp at hb;omega
theorem ins_room {b off : Nat} {jk : List Value} (hi : i ≤ l.length) (hj : jk.length = 1 * 3) (O : Own W 46 3 (.slice (some ⟨b, off, none⟩) (l.length + 1) c) (l.length + 1) (setSeg (setSeg (dcells l ++ jk) ((i + 1) * 3) ((dcells l).drop (i * 3))) (i * 3) (dcell d)))
    (HK : Kept ((Value.slice (some ⟨b,off,none⟩) l.length c).ownBlock.toList) w W) : InsPost l (some ⟨b,off,none⟩) c i d w (.returned (.slice (some ⟨b,off,none⟩) (l.length + 1) c)) W:=by
  have hx : (dcells (l.take i)).length = i * 3:=by rw [dcells_len,List.length_take,Nat.min_eq_left hi]
  have h := seg_b (W := dcells l ++ jk) (X := dcells (l.take i)) (Y := dcell d) (Z := (dcells l).drop (i * 3))
    (by rw [List.length_append,dcells_len,hj,hx,List.length_drop,dcells_len]; show _ = i * 3 + 3 + _; omega) (by rw [hx,List.take_append,dcells_len,show i * 3 - l.length * 3 = 0 by omega,dcells_take]; simp)
  rw [hx,show i * 3 + (dcell d).length = (i + 1) * 3 by show i * 3 + 3 = _; omega,← ins_parts] at h;rw [h] at O;exact ⟨_,c,rfl,O,HK,fun b' hb=>.inl hb⟩
end
theorem insert_any (l : List Dt) (A : Option Addr) (c : Nat) (i vb : Nat) (d : Dt) (w : World) (OO : Own w 46 3 (.slice A l.length c) l.length (dcells l)) (BV : Blk w vb 46 (dcell d).toArray) (hi : i ≤ l.length) (hm : l.length ≤ 1000000) (hne : ∀ a,A = some a → a.block ≠ vb) : Calls Tryz.prog 118 #[.slice A l.length c,.int .i64 i,.slice (some ⟨vb,0,none⟩) 1 1] w (InsPost l A c i d w):=by
 have HK : Kept ((Value.slice A l.length c).ownBlock.toList) w w:=Kept.refl _ _;have hcl:=own_cap OO;have ltV:=BV.lt;have O0:=OO;refine C.enter Tryz.func118 rfl Tryz.ntmps118 rfl ?_;intro a1 f;have f : Fr 95 a1 [(0,.slice A l.length c),(1,.int .i64 i),(2,.slice (some ⟨vb,0,none⟩) 1 1)]:=f;refine C.sk fun _ k1=>?_;refine L.ag f fun _ f=>?_;have f:=f.pk [0,1,2,6];refine wn k1 (C.sk fun _ k1=>?_);refine L.mv f fun _ f=>?_;refine L.mv f fun _ f=>?_;refine L.va f (E.slLlo f U32 Z3 rfl rfl (by omega) (by omega) ) fun _ f=>?_;have f:=f.pk [0,1,2,6];refine wn k1 (C.sk fun _ k1=>?_);refine L.mv f fun _ f=>?_;refine L.va f (E.lenL f U32 rfl) fun _ f=>?_;refine L.ag f fun _ f=>?_;refine wn k1 ?_;have f:=f.pk [0,1,2,6,7];refine wp_seq_k fun _ k1=>C.sk fun _ k2=>?_;refine L.mv f fun _ f=>?_;refine L.va f (E.eql f rfl rfl) fun _ f=>?_;have f:=f.as (i:=16) (v':=.bool false) rfl (by rfl);refine wn k2 ?_;have f:=f.pk [0,1,2,6,7,16];refine C.condF f rfl ?_;refine wp_skip (k1 _ _ ?_);have f:=f.pk [0,1,2,6,7];refine C.sk fun _ k1=>?_;refine L.mv f fun _ f=>?_;refine L.va f (E.lenL f U32 rfl) fun _ f=>?_;refine L.ag f fun _ f=>?_;refine wn k1 ?_;have f:=f.pk [0,1,2,6,7,8];refine wp_seq_k fun _ k1=>C.sk fun _ k2=>?_;refine L.mv f fun _ f=>?_;refine L.mv f fun _ f=>?_;refine L.va f (E.eql f rfl rfl) fun _ f=>?_;refine wn k2 ?_;have f:=f.pk [0,1,2,6,7,8,22]
 refine f.splitD 22 rfl (fun h0 f=>?_) (fun h0 f=>?_)
 ·have hin:=h0;refine C.condT f rfl ?_;refine C.sk fun _ k2=>?_;refine L.mv f fun _ f72=>?_;refine L.mv f72 fun _ f72=>?_;refine L.append f72 wantedN (by decide) U32 Z5 rfl rfl rfl rfl (OO) (sl_one _ vb d BV) (fun u hu=>dcells_one [d] u (by simpa [dcells] using hu)) (by unfold maxLen; omega) (by omega) fun _ w1 Ax cx AP1 f72=>?_;have kap1:=AP1.kept;have APX:=AP1;have HK0:=Kept.refl [] w;have szw1:=kap1.size;clear kap1;refine L.ag f72 fun _ f72=>?_;have f72:=f72.pk [0,1,2,6,7,8];refine wn k2 (wp_ret ?_); (try simp only [xt,xb]); refine C.ret f72 rfl rfl ?_;exact ins_end hin hi O0 HK0 APX
 have hin:=h0;obtain ⟨b,off,hA⟩:=(Sl.of_own OO).addr (by omega);subst hA;have hbL : b ∈ (Value.slice (some ⟨b,off,none⟩) l.length c).ownBlock.toList:=by simp [Value.ownBlock]
 have hbv : b ≠ vb:=hne _ rfl;have hbw:=(OO.blk b rfl).1;refine C.condF f rfl ?_;refine wp_skip (k1 _ _ ?_);have f:=f.pk [0,1,2,6,7,8];refine wp_seq_k fun _ k1=>C.sk fun _ k2=>?_;refine L.mv f fun _ f=>?_;refine L.mv f fun _ f=>?_;refine L.va f (E.add f rfl rfl (IntWalk.i64_in _ (by omega))) fun _ f=>?_;refine L.mv f fun _ f=>?_;refine L.va f (E.capL f U32 rfl) fun _ f=>?_;refine L.va f (E.gtr f rfl rfl) fun _ f=>?_;refine wn k2 ?_;have f:=f.pk [0,1,2,6,7,8,31];refine f.splitD 31 rfl (fun h1 f=>?_) (fun h1 f=>?_)
 ·have hgr:=h1;have OH:=OO.head (k:=i) hi;refine C.condT f rfl ?_;refine C.sk fun _ k2=>?_;refine L.mv f fun _ f72=>?_;refine L.mv f72 fun _ f72=>?_;refine L.va f72 (E.slLhi f72 U32 Z3 rfl rfl (by omega) (by omega) ) fun _ f72=>?_;refine L.mv f72 fun _ f72=>?_;refine L.mv f72 fun _ f72=>?_;refine L.va f72 (E.add f72 rfl rfl (IntWalk.i64_in _ (by omega))) fun _ f72=>?_;refine L.mv f72 fun _ f72=>?_;refine L.va f72 (E.sub f72 rfl rfl (IntWalk.i64_in _ (by omega))) fun _ f72=>?_;refine L.appendZ f72 wantedN (by decide) U32 U3 Z5 rfl rfl rfl rfl (m:=l.length + 1 - i) OH (by omega) (by omega) (by omega) (by omega) (by omega) fun _ w1 g c2 OZ loz kz f72=>?_;have szw1:=kz.size;replace HK:=HK.z kz;replace OO:=OO.kept kz (by simp);replace BV:=BV.z kz;have hcz : i + (l.length + 1 - i) ≤ c2:=own_cap OZ;have hzl : (dcells l).take (i * 3) = dcells (l.take i):=dcells_take l i;clear kz OH;refine L.ag f72 fun _ f72=>?_;have f72:=f72.pk [0,1,2,6,7,8,9];refine wn k2 (C.sk fun _ k2=>?_);refine L.mv f72 fun _ f72=>?_;refine L.mv f72 fun _ f72=>?_;refine L.va f72 (E.slA f72 U32 Z3 rfl rfl rfl (k:=i) (by omega) (by omega)) fun _ f72=>?_;refine L.mv f72 fun _ f72=>?_
  refine L.copyR f72 wantedN (by decide) U32 Z3 rfl rfl (j:=i * 3) (vs:=dcell d) OZ (by omega) (sl_one _ vb d BV) (by omega) (by rw [ins_min1 (by omega)]; rfl) (by rw [ins_len1 l i hi]; simp; omega) (fun u hu=>dcells_one [d] u (by simpa [dcells] using hu)) fun _ w2 OZ2 kc f72=>?_;have szw2:=kc.size;replace HK:=HK.trans kc (by intro x hx hlt; simp at hx; subst hx; omega);replace BV:=BV.kept kc (by (simp; omega));replace OO:=OO.kept kc (by intro k hk; simp [Value.ownBlock] at hk ⊢; omega);clear kc;refine wn k2 ?_;have f72:=f72.pk [0,1,2,6,7,8,9];refine wp_seq_k fun _ k2=>?_;refine R.begin (S:=fun W=>Kept [g] w2 W) (by kernel_rfl) (by exact (Kept.refl _ _).drewN 1) ?_;have s : Kept [g] w2 (w2.drewN 1):=(Kept.refl _ _).drewN 1;have hd11 : Kept [] w2 (w2.drewN 1):=(Kept.refl _ _).drewN 1;obtain ⟨w3,hww3⟩ : ∃ W,W = w2.drewN 1:=⟨_,rfl⟩;rw [← hww3] at s hd11 ⊢;clear hww3;have szw3:=s.size;replace OO:=OO.kept hd11 (by simp);replace OZ2:=OZ2.kept hd11 (by simp);refine R.mv 0 f72 rfl s fun _ f72=>?_;refine R.mv 1 f72 rfl s fun _ f72=>?_;refine R.mv 2 f72 rfl s fun _ f72=>?_;refine R.p 3 f72 rfl s (E.add f72 rfl rfl (IntWalk.i64_in _ (by omega))) fun _ f72=>?_;refine R.p 4 f72 rfl s (E.slA f72 U32 Z3 rfl rfl (show ((i : Int) + 1) = ((i + 1 : Nat) : Int) by omega) (by omega) (by omega)) fun _ f72=>?_;refine R.mv 5 f72 rfl s fun _ f72=>?_;refine R.mv 6 f72 rfl s fun _ f72=>?_
  refine R.p 7 f72 rfl s (E.slA f72 U32 Z3 rfl rfl rfl (k:=i) hi (by omega)) fun _ f72=>?_;refine R.on 8 ?_;refine O.copyR f72 rfl wantedN (by decide) U32 Z3 rfl rfl (j:=(i + 1) * 3) (vs:=(dcells l).drop (i * 3)) OZ2 (by omega) (Sl.of_own (OO.cutA hi (by omega))) (by omega) (by rw [ins_min2 (by omega),List.take_of_length_le (by rw [List.length_drop,dcells_len]; omega)]) (by rw [setSeg_len,ins_len1 l i hi,List.length_drop,dcells_len]; omega) (fun u hu=>dcells_one l u (List.mem_of_mem_drop hu)) (fun _ hk=>s.trans hk (by simp)) fun _ w4 OZ3 kc f72=>?_;have szw4:=kc.size;replace s:=s.trans kc (by simp);clear kc;have szw4r:=s.size;replace HK:=HK.trans s (by intro x hx hlt; simp at hx; subst hx; omega);replace BV:=BV.kept s (by (simp; omega));clear s;refine R.done (by kernel_rfl) (k2 _ _ ?_);have f72:=f72.pk [0,1,2,6,7,8,9];refine C.sk fun _ k2=>?_;refine L.mv f72 fun _ f72=>?_;refine L.ag f72 fun _ f72=>?_;have f72:=f72.pk [0,1,2,6,7,8];refine wn k2 (wp_ret ?_); (try simp only [xt,xb]); refine C.ret f72 rfl rfl ?_;exact ins_grow hi loz OZ3 HK
 have hgr:=h1;obtain ⟨jk,hjk,OM⟩:=OO.more (k:=1) (by omega);refine C.condF f rfl ?_;refine wp_skip (k1 _ _ ?_);have f:=f.pk [0,1,2,6,7,8];refine C.sk fun _ k1=>?_;refine L.mv f fun _ f=>?_;refine L.mv f fun _ f=>?_;refine L.mv f fun _ f=>?_;refine L.va f (E.add f rfl rfl (IntWalk.i64_in _ (by omega))) fun _ f=>?_;refine L.va f (E.slLhi f U32 Z3 rfl rfl (by omega) (by omega)) fun _ f=>?_;refine L.ag f fun _ f=>?_;refine wn k1 ?_;have f:=f.pk [0,1,2,6,7,8];refine wp_seq_k fun _ _=>C.sk fun _ k1=>?_;refine L.mv f fun _ f=>?_;refine L.mv f fun _ f=>?_;refine L.mv f fun _ f=>?_;refine L.mv f fun _ f=>?_;refine L.va f (E.add f rfl rfl (IntWalk.i64_in _ (by omega))) fun _ f=>?_;refine L.va f (E.slA f U32 Z3 rfl rfl (show ((i : Int) + 1) = ((i + 1 : Nat) : Int) by omega) (by omega) (by omega)) fun _ f=>?_;refine L.va f (overlaps_no f rfl rfl BV OO hbv) fun _ f=>?_;have f:=f.as (i:=67) (v':=.bool false) rfl (by rfl);refine L.va f (E.not f rfl) fun _ f=>?_;refine wn k1 ?_;have f:=f.pk [0,1,2,6,7,8,68];refine C.condT f rfl ?_;refine wp_seq_k fun _ k1=>?_;refine R.begin (S:=fun W=>Kept [b] w W) (by kernel_rfl) (by exact (Kept.refl _ _).drewN 1) ?_;have s : Kept [b] w (w.drewN 1):=(Kept.refl _ _).drewN 1;have hd15 : Kept [] w (w.drewN 1):=(Kept.refl _ _).drewN 1;obtain ⟨w1,hww1⟩ : ∃ W,W = w.drewN 1:=⟨_,rfl⟩;rw [← hww1] at s hd15 ⊢;clear hww1;have szw1:=s.size;replace OM:=OM.kept hd15 (by simp)
 replace BV:=BV.kept hd15 (by (simp; done));refine R.mv 0 f rfl s fun _ f=>?_;refine R.mv 1 f rfl s fun _ f=>?_;refine R.mv 2 f rfl s fun _ f=>?_;refine R.p 3 f rfl s (E.add f rfl rfl (IntWalk.i64_in _ (by omega))) fun _ f=>?_;refine R.p 4 f rfl s (E.slA f U32 Z3 rfl rfl (show ((i : Int) + 1) = ((i + 1 : Nat) : Int) by omega) (by omega) (by omega)) fun _ f=>?_;refine R.mv 5 f rfl s fun _ f=>?_;refine R.mv 6 f rfl s fun _ f=>?_;refine R.p 7 f rfl s (E.slA f U32 Z3 rfl rfl rfl (k:=i) (by omega) (by omega)) fun _ f=>?_;refine R.on 8 ?_;refine O.copyR f rfl wantedN (by decide) U32 Z3 rfl rfl (j:=(i + 1) * 3) (vs:=(dcells l).drop (i * 3)) OM rfl (Sl.of_own (OM.cutA (k:=i) (by omega) (by omega))) (by omega) (by exact ins_min3 hjk hi) (by rw [List.length_append,hjk,List.length_drop,dcells_len]; omega) (fun u hu=>dcells_one l u (List.mem_of_mem_drop hu)) (fun _ hk=>s.trans hk (by simp)) fun _ w2 OM2 kc f=>?_;have szw2:=kc.size;replace s:=s.trans kc (by simp);replace BV:=BV.kept kc (by (simp; omega));clear kc;have szw2r:=s.size;replace HK:=HK.trans s (by intro x hx _; simp at hx; subst hx; exact hbL);clear s;refine R.done (by kernel_rfl) (k1 _ _ ?_);have f:=f.pk [0,1,2,6,7,8];refine C.sk fun _ k1=>?_;refine L.mv f fun _ f=>?_;refine L.mv f fun _ f=>?_;refine L.va f (E.slA f U32 Z3 rfl rfl rfl (k:=i) (by omega) (by omega)) fun _ f=>?_;refine L.mv f fun _ f=>?_
 refine L.copyR f wantedN (by decide) U32 Z3 rfl rfl (j:=i * 3) (vs:=dcell d) OM2 rfl (sl_one _ vb d BV) (by omega) (by rw [ins_min1 (by omega)]; rfl) (by rw [setSeg_len,List.length_append,hjk,dcells_len]; simp; omega) (fun u hu=>dcells_one [d] u (by simpa [dcells] using hu)) fun _ w3 OM3 kc f=>?_;have szw3:=kc.size;replace HK:=HK.trans kc (by intro x hx _; simp at hx; subst hx; exact hbL);clear kc;have f:=f.pk [0,1,2,6,7,8];refine wn k1 (C.sk fun _ k1=>?_);refine L.mv f fun _ f=>?_;refine L.ag f fun _ f=>?_;have f:=f.pk [0,1,2,6,7,8];refine wn k1 (wp_ret ?_); (try simp only [xt,xb]); refine C.ret f rfl rfl ?_;exact ins_room hi hjk OM3 HK
end Go.Proofs.YtekmhcdgmgbheaaGreatDoor
namespace Go.Proofs.YtekmhcdgmgbheaaGreatDoor
open Go.RowKit Go.Hub
section
variable {l : List Dt} {A : Option Addr} {c i : Nat} {d x : Dt} {w0 W : World}
theorem add_no (h : rightB l = true) (hd : mayB d = false) : addD l d = l:=by unfold addD; rw [if_neg (by simp [h]),if_pos (.inl hd)]
theorem add_yes (h : rightB l = true) (hd : mayB d = true) : addD l d = if d.n ≤ topI l d.node d.epoch then l else insD l d:=by
  have hn:=may_of hd;unfold addD;rw [if_neg (by simp [h])]
  by_cases ht : d.n ≤ topI l d.node d.epoch
  · rw [if_pos ht,if_pos (.inr (by simp only [hasB,topR,h,if_true,Bool.and_eq_true,decide_eq_true_eq]; omega))]
  rw [if_neg ht,if_neg ?_];rintro (h1 | h1)
  · rw [hd] at h1; cases h1
  simp only [hasB,topR,h,if_true,Bool.and_eq_true,decide_eq_true_eq] at h1;omega
theorem put_ins {A' : Option Addr} {c' : Nat} (h : rightB l = true) (hd : mayB d = true) (hs : Srch l d i false) (_ : True) (HK : Kept [] w0 W) (F : Fresh w0 W 46 3 A' (l.length + 1) c' (dcells (l.take i ++ d :: l.drop i))) : DotsPost (addD l d) w0 (.returned (.slice A' (l.length + 1) c')) W:=by
  have hn:=may_of hd;have ht:=hs.top (rises h)
  have he : addD l d = l.take i ++ d :: l.drop i:=by
    rw [add_yes h hd,ht,if_neg (by omega),insD_at l d i (fun y hy=>by
      obtain ⟨k,hk⟩:=List.getElem?_of_mem hy;rw [List.getElem?_take] at hk
      split at hk
      · exact hs.lo k y (by assumption) hk
      cases hk) (fun y hy=>hs.hi i y (Nat.le_refl _) hy) hs.le]
    cases hq : l[i]? with
    | none=>
      have hi : l.length ≤ i:=List.getElem?_eq_none_iff.1 hq;simp only [];rw [List.take_of_length_le hi,List.drop_eq_nil_of_le hi]
    | some y=>
      simp only [];rw [if_pos];have h1:=hs.hi i y (Nat.le_refl _) hq;have h2 : ¬ (y.node = d.node ∧ y.epoch = d.epoch):=fun hc=>by have:=hs.is.2 ⟨y,hq,hc.1,hc.2⟩; cases this
      unfold lt2 at *;omega
  have hl : (l.take i ++ d :: l.drop i).length = l.length + 1:=by
    have:=hs.le
    simp
    omega
  refine ⟨HK,A',c',by rw [he,hl],?_⟩;rw [he,hl];exact F
theorem put_set (h : rightB l = true) (hd : mayB d = true) (hx : l[i]? = some x) (hn : x.node = d.node) (he : x.epoch = d.epoch) (hlt : x.n < d.n) (HK : Kept [] w0 W) (F : Fresh w0 W 46 3 A l.length c (dcells (l.set i { x with n:=d.n }))) : DotsPost (addD l d) w0 (.returned (.slice A l.length c)) W:=by
  have ht:=topI_some h hx;rw [hn,he] at ht;have hr:=rises h
  have h2 : addD l d = l.set i { x with n:=d.n }:=by
    rw [add_yes h hd,ht,if_neg (by omega),insD_at l d i (fun y hy=>by
      obtain ⟨k,hk⟩:=List.getElem?_of_mem hy;rw [List.getElem?_take] at hk
      split at hk
      · have := hr.1 k i y x (by assumption) hk hx
        unfold lt2 at *;omega
      cases hk) (fun y hy=>by rw [hx] at hy; injection hy with hy; subst hy; unfold lt2; omega) (by have:=(List.getElem?_eq_some_iff.1 hx).1; omega),hx]
    simp only [];rw [if_neg (by unfold lt2; omega)]
  refine ⟨HK,A,c,by rw [h2,List.length_set],?_⟩;rw [h2,List.length_set];exact F
theorem put_same (h : rightB l = true) (hd : mayB d = true) (hx : l[i]? = some x) (hn : x.node = d.node) (he : x.epoch = d.epoch) (hlt : ¬ x.n < d.n) (HK : Kept [] w0 W) (F : Fresh w0 W 46 3 A l.length c (dcells l)) : DotsPost (addD l d) w0 (.returned (.slice A l.length c)) W:=by
  have ht:=topI_some h hx;rw [hn,he] at ht;have h2 : addD l d = l:=by rw [add_yes h hd,ht,if_pos (by omega)]
  exact ⟨HK,A,c,by rw [h2],by rw [h2]; exact F⟩
end
theorem put_any (l : List Dt) (A : Option Addr) (c : Nat) (d : Dt) (w0 w : World) (F : Fresh w0 w 46 3 A l.length c (dcells l)) (HK : Kept [] w0 w) (hr : rightB l = true) (hd : mayB d = true) (hm : l.length ≤ 1000000) : Calls Tryz.prog 103 #[.slice A l.length c,.agg (dcell d).toArray] w (fun e w'=>DotsPost (addD l d) w0 e w'):=by
 have szw0:=HK.size;have hAb : ∀ a,A = some a → a.block < w.heap.size:=fun a ha=>(F.own.blk a.block (by rw [ha]; rfl)).1;refine C.enter Tryz.func103 rfl Tryz.ntmps103 rfl ?_;intro a1 f;have f : Fr 37 a1 [(0,.slice A l.length c),(1,.agg (dcell d).toArray)]:=f;refine C.sk fun _ k=>?_;refine L.box f wantedN (by decide) rfl rfl fun _ w1 g0 N f=>?_;obtain ⟨Bg0,q,log0,ltg0,szw1⟩:=N.al;replace HK:=HK.z q;replace F:=F.kept0 q;clear N q;refine L.ag f fun _ f=>?_;have f:=f.pk [0,3,4];refine wn k (C.sk fun _ k=>?_);refine L.mv f fun _ f=>?_;refine L.va f (E.loadB f U46 rfl Z3 rfl (Bg0) rfl) fun _ f=>?_;refine L.cl f (rc3 f Tryz.call117) (search_any l _ _ d _ F.sl hm (rises hr)) ?_;rintro e w2 ⟨q,i,bb,rfl,hs⟩;refine ⟨_,rfl,fun _ f=>?_⟩;have szw2:=q.size;replace HK:=HK.z q;replace F:=F.kept0 q;replace Bg0:=Bg0.z q;clear q;refine L.mv f fun _ f=>?_;refine L.va f (E.extract f rfl rfl) fun _ f=>?_;refine L.va f (E.extract f rfl rfl) fun _ f=>?_;refine L.ag f fun _ f=>?_;refine L.ag f fun _ f=>?_;refine wn k ?_;have f:=f.pk [0,3,4,5,6];refine wp_seq_k fun _ k=>?_;refine wp_block ?_;refine C.sk fun _ k1=>?_;refine L.mv f fun _ f=>?_;refine L.va f (E.not f rfl) fun _ f=>?_;refine L.ag f fun _ f=>?_;refine wn k1 ?_;have f:=f.pk [0,3,4,5,13];refine f.splitNB 13 rfl (fun h0 f=>?_) (fun h0 f=>?_)
 ·have hb0:=h0
  obtain rfl : bb = false:=by simpa using hb0
  refine C.condT f rfl ?_;refine C.sk fun _ k1=>?_;refine L.mv f fun _ f41=>?_;refine L.mv f41 fun _ f41=>?_;refine L.va f41 (E.loadB f41 U46 rfl Z3 rfl (Bg0) rfl) fun _ f41=>?_;refine L.buildSlice f41 wantedN (by decide) (parts1 f41 rfl) U32 Z6 rfl rfl (Z7 _ _ _) fun _ w3 g2 N f41=>?_;obtain ⟨Bg2,q,log2,ltg2,szw3⟩:=N.al;have neg0_g2 : g0 ≠ g2:=by have:=Bg0.lt; omega
  replace HK:=HK.z q;replace F:=F.kept0 q;replace Bg0:=Bg0.z q;clear N q;refine L.cl f41 (rc3 f41 Tryz.call118) (insert_any l A c i g2 d w3 F.own Bg2 hs.le hm (fun a ha e=>by have:=hAb a ha; omega)) ?_;rintro e w4 ⟨A',c',rfl,OI,q,hwh⟩;have FI : Fresh w0 w4 46 3 A' (l.length + 1) c' (dcells (l.take i ++ d :: l.drop i)):=⟨OI,fun b hb=>(hwh b hb).elim (F.lo b) (fun h=>by have:=HK.size; omega)⟩;replace HK:=HK.trans q (by intro x hx hlt; have:=F.lo x ((own_block A l.length c x).1 (by simpa using hx)); omega);refine ⟨_,rfl,fun _ f41=>?_⟩;have szw4:=q.size;clear q;refine L.ag f41 fun _ f41=>?_;have f41:=f41.pk [0,4];refine wn k1 (wp_ret ?_); (try simp only [xt,xb]); refine C.ret f41 rfl rfl ?_;exact put_ins hr hd hs trivial HK FI
 have hb0:=h0;obtain ⟨x,hx,hxn,hxe⟩:=hs.is.1 (by simpa using hb0);have hil:=(List.getElem?_eq_some_iff.1 hx).1;obtain ⟨b,off,hA⟩:=F.sl.addr (by omega);refine C.condF f rfl ?_;refine wp_seq_k fun _ k1=>?_;refine R.begin (S:=fun W=>Kept [] w2 W) (by kernel_rfl) (by exact (Kept.refl _ _).drewN 1) ?_;have s : Kept [] w2 (w2.drewN 1):=(Kept.refl _ _).drewN 1;have hd4 : Kept [] w2 (w2.drewN 1):=(Kept.refl _ _).drewN 1;obtain ⟨w3,hww3⟩ : ∃ W,W = w2.drewN 1:=⟨_,rfl⟩;rw [← hww3] at s hd4 ⊢;clear hww3;have szw3:=s.size;refine R.mv 0 f rfl s fun _ f=>?_;refine R.mv 1 f rfl s fun _ f=>?_;refine R.p 2 f rfl s (E.indexA f (by assumption) U32 Z3 rfl rfl (by omega) (by omega)) fun _ f=>?_;refine R.p 3 f rfl s (E.fa 2 f U46 rfl Z0) fun _ f=>?_;refine R.t 4 f rfl s (fun W hW=>(E.load f U3 rfl rfl ((F.kept0 hW).sl.row (by omega) hA (dcells_at l i x hx) 2 _ rfl))) fun _ f=>?_;refine R.p 5 f rfl s (E.fa 2 f U46 rfl Z0) fun _ f=>?_;refine R.t 6 f rfl s (fun W hW=>(E.load f U3 rfl rfl ((Bg0.z hW).cl rfl))) fun _ f=>?_;refine R.p 7 f rfl s (E.lss f rfl rfl) fun _ f=>?_;refine R.p 8 f rfl s (E.assign f rfl) fun _ f=>?_;have szw3r:=s.size;replace HK:=HK.z s;replace F:=F.kept0 s;replace Bg0:=Bg0.z s;clear s;refine R.done (by kernel_rfl) (k1 _ _ ?_);have f:=f.pk [0,3,4,5,21];refine f.splitD 21 rfl (fun h1 f=>?_) (fun h1 f=>?_)
 ·have hlt:=h1;refine C.condT f rfl ?_;refine C.region ?_;refine L.mv f fun _ f41=>?_;refine L.mv f41 fun _ f41=>?_;refine L.fa 2 f41 U46 rfl Z0 fun _ f41=>?_;refine L.va f41 (E.load f41 U3 rfl rfl ((Bg0).cl rfl)) fun _ f41=>?_;refine L.va f41 (E.indexA f41 (by assumption) U32 Z3 rfl rfl (by omega) (by omega)) fun _ f41=>?_;refine L.fa 2 f41 U46 rfl Z0 fun _ f41=>?_;refine L.storeO f41 wantedN Z0 (j:=i * 3 + 2) hA F.own rfl (show off + i * 3 + 2 = _ by omega) (by rw [dcells_len]; omega) rfl rfl fun _ w4 f41 OW2 ks=>?_;have szw4:=ks.size;have FS : Fresh w0 w4 46 3 A l.length c ((dcells l).set (i * 3 + 2) (.int .i64 d.n)):=⟨OW2,F.lo⟩;have hbw:=F.lo b (by rw [hA]; rfl);replace HK:=HK.trans ks (by intro x hx hlt; simp at hx; subst hx; omega);clear ks;have f41:=f41.pk [0,4];refine wn k (C.sk fun _ k1=>?_);refine L.mv f41 fun _ f41=>?_;refine L.ag f41 fun _ f41=>?_;have f41:=f41.pk [4];refine wn k1 (wp_ret ?_); (try simp only [xt,xb]); refine C.ret f41 rfl rfl ?_;exact put_set hr hd hx hxn hxe hlt HK (by rw [dcells_set l i x d.n hx] at FS; exact FS)
 have hlt:=h1;refine C.condF f rfl ?_;refine wp_skip (k _ _ ?_);have f:=f.pk [0,4];refine C.sk fun _ k=>?_;refine L.mv f fun _ f=>?_;refine L.ag f fun _ f=>?_;have f:=f.pk [4];refine wn k (wp_ret ?_); (try simp only [xt,xb]); refine C.ret f rfl rfl ?_;exact put_same hr hd hx hxn hxe hlt HK F
theorem Add_any (l : List Dt) (A : Option Addr) (c : Nat) (d : Dt) (w : World) (A1 : Ds w A l) (hm : l.length ≤ 1000000) : Calls Tryz.prog 67 #[.slice A l.length c,.agg (dcell d).toArray] w (DotsPost (addD l d) w):=by
 have HK : Kept [] w w:=Kept.refl [] w;refine C.enter Tryz.func67 rfl Tryz.ntmps67 rfl ?_;intro a f;have f : Fr 17 a [(0,.slice A l.length c),(1,.agg (dcell d).toArray)]:=f;refine C.sk fun _ k=>?_;refine L.box f wantedN (by decide) rfl rfl fun _ w1 g0 N f=>?_;obtain ⟨Bg0,q,log0,ltg0,szw1⟩:=N.al;have frg0:=HK.lo log0;replace HK:=HK.z q;clear N q;refine L.ag f fun _ f=>?_;refine wn k ?_;have f:=f.pk [0,3,4];refine wp_seq_k fun _ k=>C.sk fun _ k1=>?_;refine L.mv f fun _ f=>?_;refine L.cl f (rc1 f Tryz.call100) (right_any l _ _ _ (A1.kept HK) (by unfold maxLen; omega)) ?_;rintro e w2 ⟨q,rfl⟩;refine ⟨_,rfl,fun _ f=>?_⟩;have szw2:=q.size;replace HK:=HK.z q;replace Bg0:=Bg0.z q;clear q;refine L.va f (E.not f rfl) fun _ f=>?_;refine wn k1 ?_;have f:=f.pk [0,3,4,7];refine f.splitNB 7 rfl (fun h0 f=>?_) (fun h0 f=>?_)
 ·have hrb:=h0;refine C.condT f rfl ?_;refine C.sk fun _ k1=>?_;refine L.ag f fun _ f26=>?_;have f26:=f26.pk [0,3,4];refine wn k1 (wp_ret ?_); (try simp only [xt,xb]); refine C.ret f26 rfl rfl ?_;exact ⟨HK,none,0,by simp [addD,hrb],by rw [show addD l d = [] by simp [addD,hrb]]; exact Fresh.nil _ _ _ _⟩
 have hrb:=h0;refine C.condF f rfl ?_;refine wp_skip (k _ _ ?_);have f:=f.pk [0,3,4];refine C.sk fun _ k=>?_;refine L.mv f fun _ f=>?_;refine L.cl f (rc1 f Tryz.call62) (clone_any l _ _ _ (A1.kept HK) hm) ?_;rintro e w3 ⟨q,Ac,cc,rfl,FC⟩;have FC:=FC.lower (w0:=w) (by have:=HK.size; omega);refine ⟨_,rfl,fun _ f=>?_⟩;have szw3:=q.size;replace HK:=HK.z q;replace Bg0:=Bg0.z q;clear q;refine L.ag f fun _ f=>?_;refine wn k ?_;have f:=f.pk [0,3,4];refine wp_seq_k fun _ k=>C.sk fun _ k1=>?_;refine L.va f (E.loadB f U46 rfl Z3 rfl (Bg0) rfl) fun _ f=>?_;refine L.cl f (rc1 f Tryz.call102) (may_any d _) ?_;rintro e w4 ⟨q,rfl⟩;refine ⟨_,rfl,fun _ f=>?_⟩;have szw4:=q.size;replace HK:=HK.z q;replace Bg0:=Bg0.z q;replace FC:=FC.kept0 q;clear q;refine L.va f (E.not f rfl) fun _ f=>?_;refine wn k1 ?_;have f:=f.pk [0,3,4,12];refine f.splitNB 12 rfl (fun h1 f=>?_) (fun h1 f=>?_)
 ·have hmy:=h1;refine C.condT f rfl ?_;refine C.sk fun _ k1=>?_;refine L.mv f fun _ f26=>?_;refine L.ag f26 fun _ f26=>?_;have f26:=f26.pk [0,3,4];refine wn k1 (wp_ret ?_); (try simp only [xt,xb]); refine C.ret f26 rfl rfl ?_;exact ⟨HK,Ac,cc,by rw [add_no hrb hmy],by rw [add_no hrb hmy]; exact FC⟩
 have hmy:=h1;refine C.condF f rfl ?_;refine wp_skip (k _ _ ?_);have f:=f.pk [0,3,4];refine C.sk fun _ k=>?_;refine L.mv f fun _ f=>?_;refine L.va f (E.loadB f U46 rfl Z3 rfl (Bg0) rfl) fun _ f=>?_;refine L.cl f (rc2 f Tryz.call103) (put_any l Ac cc d w w4 FC HK hrb hmy hm) ?_;rintro e w5 ⟨q,A2,c2,rfl,F2⟩;have kput:=q;refine ⟨_,rfl,fun _ f=>?_⟩;have szw5:=q.size;clear q;refine L.ag f fun _ f=>?_;have f:=f.pk [4];refine wn k (wp_ret ?_); (try simp only [xt,xb]); refine C.ret f rfl rfl ?_;exact ⟨kput,A2,c2,rfl,F2⟩
end Go.Proofs.YtekmhcdgmgbheaaGreatDoor
namespace Go.Proofs.YtekmhcdgmgbheaaGreatDoor
open Go.RowKit Go.Hub
theorem fold_next {b l : List Dt} {k : Nat} {d : Dt} (h : b[k]? = some d) : addD ((b.take k).foldl addD l) d = (b.take (k + 1)).foldl addD l:=by
  rw [List.take_succ,h,List.foldl_append]
  rfl
theorem join_no {a b : List Dt} (h : ¬ (rightB a = true ∧ rightB b = true)) : joinD a b = []:=by rw [joinD,if_neg h]
theorem join_fin {l b acc : List Dt} {k cx : Nat} {Ax : Option Addr} {w W : World} (ha : rightB l = true) (hb : rightB b = true) (h : acc = (b.take k).foldl addD l) (hk : b.length ≤ k) (HK : Kept [] w W) (F : Fresh w W 46 3 Ax acc.length cx (dcells acc)) : DotsPost (joinD l b) w (.returned (.slice Ax acc.length cx)) W:=by
  have e : joinD l b = acc:=by rw [joinD,if_pos ⟨ha,hb⟩,h,List.take_of_length_le hk]
  rw [e];exact ⟨HK,Ax,cx,rfl,F⟩
theorem before_is (p q : Dt) : decide ((if livesI p q = 0 then cmpI p.n q.n else livesI p q) < 0) = decide (lt3 p q):=by
  rw [decide_eq_decide];unfold livesI cmpI lt3
  repeat' split
  all_goals omega
theorem befR1 {p q : Dt} (h : ¬ p.node = q.node) : decide (p.node < q.node) = decide (lt3 p q):=by rw [decide_eq_decide]; unfold lt3; omega
theorem befR2 {p q : Dt} (h : p.node = q.node) (h2 : ¬ p.epoch = q.epoch) : decide (p.epoch < q.epoch) = decide (lt3 p q):=by rw [decide_eq_decide]; unfold lt3; omega
theorem befR3 {p q : Dt} (h : p.node = q.node) (h2 : p.epoch = q.epoch) : decide (p.n < q.n) = decide (lt3 p q):=by rw [decide_eq_decide]; unfold lt3; omega
theorem fold_len : ∀ (b a : List Dt), (b.foldl addD a).length ≤ a.length + b.length
  | [],a=>by simp
  | d :: b,a=>by
    have h1:=fold_len b (addD a d)
    have h2:=add_len a d
    simp only [List.foldl_cons,List.length_cons] at *
    omega
theorem join_len (a b : List Dt) : (joinD a b).length ≤ a.length + b.length:=by
  unfold joinD
  split
  · exact fold_len b a
  simp
theorem JoinR_any (l b : List Dt) (A A' : Option Addr) (c c' : Nat) (w : World) (A1 : Ds w A l) (A2 : Ds w A' b) (hm : l.length + b.length ≤ 1000000) : Calls Tryz.prog 96 #[.slice A l.length c,.slice A' b.length c'] w (DotsPost (joinD l b) w):=by
 have HK : Kept [] w w:=Kept.refl [] w;refine C.enter Tryz.func96 rfl Tryz.ntmps96 rfl ?_;intro a1 f;have f : Fr 30 a1 [(0,.slice A l.length c),(1,.slice A' b.length c')]:=f;refine C.sk fun _ k1=>?_;refine L.ag f fun _ f=>?_;refine wn k1 ?_;have f:=f.pk [0,1,4];refine wp_seq_k fun _ k1=>C.sk fun _ k2=>?_;refine L.mv f fun _ f=>?_;refine L.cl f (rc1 f Tryz.call77) (rightR_any l _ _ _ (A1.kept HK) (by unfold maxLen; omega)) ?_;rintro e w1 ⟨q,rfl⟩;refine ⟨_,rfl,fun _ f=>?_⟩;have szw1:=q.size;replace HK:=HK.z q;clear q;refine L.va f (E.not f rfl) fun _ f=>?_;refine L.mv f fun _ f=>?_;refine f.splitNB 10 rfl (fun h0 f=>?_) (fun h0 f=>?_)
 ·have hra:=h0;refine L.run f (rest':=[]) (by kernel_rfl) fun _ f41=>?_;refine wn k2 ?_;have f41:=f41.sub (sv 14 (.bool true) (pkR f41 [0,1,4]));refine C.condT f41 rfl ?_;refine C.sk fun _ k3=>?_;refine L.ag f41 fun _ f41=>?_;have f41:=f41.pk [0,1,4];refine wn k3 (wp_ret ?_); (try simp only [xt,xb]); refine C.ret f41 rfl rfl ?_;exact ⟨HK,none,0,by rw [join_no (by simp [hra])]; rfl,by rw [join_no (by simp [hra])]; exact Fresh.nil _ _ _ _⟩
 have hra:=h0;have hra0:=h0;refine L.mv f (hw:=f.y) fun _ f=>?_;refine L.cl f (rc1 f Tryz.call77) (rightR_any b _ _ _ (A2.kept HK) (by unfold maxLen; omega)) ?_ (hw:=f.y);rintro e w2 ⟨q,rfl⟩;refine ⟨_,rfl,fun _ f=>?_⟩;have szw2:=q.size;replace HK:=HK.z q;clear q;refine L.va f (E.not f rfl) (hw:=f.y) fun _ f=>?_;refine L.va f (E.pickF f rfl rfl) fun _ f=>?_;refine wn k2 ?_;have f:=f.pk [0,1,4,14];refine f.splitNB 14 rfl (fun h1 f=>?_) (fun h1 f=>?_)
 ·have hrb:=h1;refine C.condT f rfl ?_;refine C.sk fun _ k2=>?_;refine L.ag f fun _ f41=>?_;have f41:=f41.pk [0,1,4];refine wn k2 (wp_ret ?_); (try simp only [xt,xb]); refine C.ret f41 rfl rfl ?_;exact ⟨HK,none,0,by rw [join_no (by simp [hrb])]; rfl,by rw [join_no (by simp [hrb])]; exact Fresh.nil _ _ _ _⟩
 have hrb:=h1;refine C.condF f rfl ?_;refine wp_skip (k1 _ _ ?_);have f:=f.pk [0,1,4];refine C.sk fun _ k1=>?_;refine L.mv f fun _ f=>?_;refine L.append f wantedN (by decide) U32 Z5 rfl rfl rfl rfl (Own.nil _ _ _) (A1.kept HK) (dcells_one l) (by unfold maxLen; omega) (by omega) fun _ w3 Ao co AP3 f=>?_;have kap3 : Kept [] w2 w3:=by simpa [Value.ownBlock] using AP3.kept
 have FC : Fresh w w3 46 3 Ao l.length co (dcells l):=by simpa using AP3.next (Fresh.nil w w2 46 3) HK.size
 replace f:=f.as (i:=16) (v':=.slice Ao l.length co) rfl (by rw [Nat.zero_add]);have szw3:=kap3.size;replace HK:=HK.z kap3;clear kap3;refine L.ag f fun _ f=>?_;refine wn k1 ?_;have f:=f.pk [1,4,5];refine wp_seq_k fun _ k1=>C.sk fun _ k2=>?_;refine L.ag f fun _ f=>?_;refine wn k2 ?_;have f:=f.pk [1,4,5,6];refine wp_block ?_;refine C.loop (fun gk a W=>∃ (k : Nat) (Ax : Option Addr) (cx : Nat) (acc : List Dt),k + gk = b.length ∧ acc = (b.take k).foldl addD l ∧ rightB acc = true ∧ acc.length ≤ l.length + k ∧ Fresh w W 46 3 Ax acc.length cx (dcells acc) ∧ Kept [] w W ∧ Fr 30 a [(1,.slice A' b.length c'),(5,.slice Ax acc.length cx),(6,.int .i64 k)]) (b.length) ?_ ?_
 ·exact ⟨0,Ao,co,l,by omega,rfl,hra,by omega,FC,HK,f.sub (sx (sx (sx sn)))⟩
 intro gk9 _ w4 hI KL8 hKL8;obtain ⟨k,Ax,cx,acc,hk,hacc,hra,hal,F,HK,f41⟩:=hI
 try clear f
 have szw1x:=HK.size;refine wp_seq_k fun _ k2=>C.sk fun _ k3=>?_;refine L.mv f41 fun _ f=>?_;refine L.mv f fun _ f=>?_;refine L.va f (E.lenL f U32 rfl) fun _ f=>?_;refine L.va f (E.lss f rfl rfl) fun _ f=>?_;refine wn k3 ?_;have f:=f.pk [1,5,6,17,18,19,20];refine f.splitD 20 rfl (fun h2 f=>?_) (fun h2 f=>?_)
 ·obtain ⟨d,hd⟩ : ∃ d,b[k]? = some d:=⟨b[k]'(by omega),List.getElem?_eq_getElem _⟩;have hmy:=(rises hrb).2 d (List.mem_of_getElem? hd);obtain ⟨bk,off,hA⟩:=A2.addr (i:=k) (by omega);refine C.condT f rfl ?_;refine wp_skip (k2 _ _ ?_);have f41:=f.pk [1,5,6,17,18,19,20];refine wp_seq_k fun _ k2=>?_;refine wp_block ?_;refine C.region ?_;refine L.mv f41 fun _ f41=>?_;refine L.mv f41 fun _ f41=>?_;refine L.mv f41 fun _ f41=>?_;refine L.va f41 (E.indexA f41 (by assumption) U32 Z3 rfl rfl (by omega) (by omega)) fun _ f41=>?_;refine L.va f41 (E.loadR f41 U46 rfl Z3 rfl ((A2.kept HK).row hA hd) rfl) fun _ f41=>?_;refine L.cl f41 (rc2 f41 Tryz.call40) (AddR_any acc _ _ d _ F.sl (by omega)) ?_;rintro e w5 ⟨q,A2',c2',rfl,F2⟩;refine ⟨_,rfl,fun _ f41=>?_⟩;have szw5:=q.size;replace HK:=HK.z q;clear q;refine L.ag f41 fun _ f41=>?_;refine wn k2 ?_;have f41:=f41.pk [1,5,6,17,18,19,20,23,24,25,26,27,28];refine C.region ?_;refine L.mv f41 fun _ f41=>?_;refine L.va f41 (E.add f41 rfl rfl (IntWalk.i64_in _ (by omega))) fun _ f41=>?_;refine L.ag f41 fun _ f41=>?_;refine wpList_nil (hKL8 _ _ (gk9 - 1) ?_ ?_)
  ·omega
  exact ⟨k + 1,A2',c2',addD acc d,by omega,by rw [hacc]; exact fold_next hd,dAddRight hra d,Nat.le_trans (add_len acc d) (by omega),F2.lower (by omega),HK,f41.sub (sx (sx (sx sn)))⟩
 have hend:=h2;refine C.condF f rfl ?_;refine wp_exit (k1 _ _ ?_);have f:=f.pk [5];refine C.sk fun _ k1=>?_;refine L.mv f fun _ f=>?_;refine L.ag f fun _ f=>?_;have f:=f.pk [4];refine wn k1 (wp_ret ?_); (try simp only [xt,xb]); refine C.ret f rfl rfl ?_;exact join_fin hra0 hrb hacc (by omega) HK F
theorem Before_any (p q : Dt) (w : World) : Calls Tryz.prog 73 #[.agg (dcell p).toArray,.agg (dcell q).toArray] w (fun e w'=>Kept [] w w' ∧ e = .returned (.bool (decide (lt3 p q)))):=by
 have HK : Kept [] w w:=Kept.refl [] w;refine C.enter Tryz.func73 rfl Tryz.ntmps73 rfl ?_;intro a f;have f : Fr 16 a [(0,.agg (dcell p).toArray),(1,.agg (dcell q).toArray)]:=f;refine C.sk fun _ k=>?_;refine L.box f wantedN (by decide) rfl rfl fun _ w1 g0 N f=>?_;obtain ⟨Bg0,q1,log0,ltg0,szw1⟩:=N.al;have frg0:=HK.lo log0;replace HK:=HK.z q1;clear N q1;refine L.box f wantedN (by decide) rfl rfl fun _ w2 g1 N f=>?_;obtain ⟨Bg1,q1,log1,ltg1,szw2⟩:=N.al;have frg1:=HK.lo log1;have neg0_g1 : g0 ≠ g1:=by have:=Bg0.lt; omega
 replace HK:=HK.z q1;replace Bg0:=Bg0.z q1;clear N q1;refine L.ag f fun _ f=>?_;refine wn k ?_;have f:=f.pk [2,3,4];refine wp_seq_k fun _ k=>?_;refine R.begin (S:=fun W=>Kept [] w2 W) (by kernel_rfl) (by exact (Kept.refl _ _).drewN 1) ?_;have s : Kept [] w2 (w2.drewN 1):=(Kept.refl _ _).drewN 1;have hd1 : Kept [] w2 (w2.drewN 1):=(Kept.refl _ _).drewN 1;obtain ⟨w3,hww3⟩ : ∃ W,W = w2.drewN 1:=⟨_,rfl⟩;rw [← hww3] at s hd1 ⊢;clear hww3;have szw3:=s.size;refine R.t 0 f rfl s (fun W hW=>(E.loadB f U46 rfl Z3 rfl (Bg0.z hW) rfl)) fun _ f=>?_;refine R.t 1 f rfl s (fun W hW=>(E.loadB f U46 rfl Z3 rfl (Bg1.z hW) rfl)) fun _ f=>?_;refine R.p 3 f rfl s (E.fa 2 f U46 rfl Z0) fun _ f=>?_;refine R.t 4 f rfl s (fun W hW=>(E.load f U3 rfl rfl ((Bg0.z hW).cl rfl))) fun _ f=>?_;refine R.p 5 f rfl s (E.fa 2 f U46 rfl Z0) fun _ f=>?_;refine R.t 6 f rfl s (fun W hW=>(E.load f U3 rfl rfl ((Bg1.z hW).cl rfl))) fun _ f=>?_;refine R.cl 2 f rfl (rc2 f Tryz.call106) (lives_any p q _) ?_;rintro e w4 ⟨q1,rfl⟩;replace s:=s.trans q1 (by simp);refine ⟨_,rfl,s,fun _ f=>?_⟩;have szw4:=q1.size;clear q1;refine R.cl 7 f rfl (rc2 f Tryz.call87) (cmp_any _ _ _) ?_;rintro e w4x ⟨rfl,rfl⟩;refine ⟨_,rfl,s,fun _ f=>?_⟩;refine R.on 8 ?_;refine O.buildSlice f rfl wantedN (by decide) (parts2 f rfl rfl) U90 Z1 rfl rfl (Z2 _ _) (fun _ hk=>s.trans hk (by simp)) fun _ w5 g4 N hSn f=>?_;obtain ⟨Bg4,q1,log4,ltg4,szw5⟩:=N.al;have szSw5:=s.size;clear N q1
 replace s:=hSn;clear hSn;refine R.cl 9 f rfl (rc1 f Tryz.call84) (or_any _ _ _ _ _ Bg4) ?_;rintro e w5x ⟨rfl,rfl⟩;refine ⟨_,rfl,s,fun _ f=>?_⟩;refine R.p 10 f rfl s (E.lss f rfl rfl) fun _ f=>?_;refine R.p 11 f rfl s (E.assign f rfl) fun _ f=>?_;have szw5r:=s.size;replace HK:=HK.z s;replace Bg0:=Bg0.z s;replace Bg1:=Bg1.z s;clear s;refine R.done (by kernel_rfl) (k _ _ ?_);have f:=f.pk [4];refine wp_ret ?_; (try simp only [xt,xb]); refine C.ret f rfl rfl ?_;exact ⟨HK,by rw [before_is]⟩
theorem BeforeR_any (p q : Dt) (w : World) : Calls Tryz.prog 108 #[.agg (dcell p).toArray,.agg (dcell q).toArray] w (fun e w'=>Kept [] w w' ∧ e = .returned (.bool (decide (lt3 p q)))):=by
 have HK : Kept [] w w:=Kept.refl [] w;refine C.enter Tryz.func108 rfl Tryz.ntmps108 rfl ?_;intro a f;have f : Fr 30 a [(0,.agg (dcell p).toArray),(1,.agg (dcell q).toArray)]:=f;refine C.sk fun _ k=>?_;refine L.box f wantedN (by decide) rfl rfl fun _ w1 g0 N f=>?_;obtain ⟨Bg0,q1,log0,ltg0,szw1⟩:=N.al;have frg0:=HK.lo log0;replace HK:=HK.z q1;clear N q1;refine L.box f wantedN (by decide) rfl rfl fun _ w2 g1 N f=>?_;obtain ⟨Bg1,q1,log1,ltg1,szw2⟩:=N.al;have frg1:=HK.lo log1;have neg0_g1 : g0 ≠ g1:=by have:=Bg0.lt; omega
 replace HK:=HK.z q1;replace Bg0:=Bg0.z q1;clear N q1;refine L.ag f fun _ f=>?_;refine wn k ?_;have f:=f.pk [2,3,4];refine wp_seq_k fun _ k=>C.sk fun _ k1=>?_;refine L.fa 0 f U46 rfl Z0 fun _ f=>?_;refine L.va f (E.load f U3 rfl rfl ((Bg0).cl rfl)) fun _ f=>?_;refine L.fa 0 f U46 rfl Z0 fun _ f=>?_;refine L.va f (E.load f U3 rfl rfl ((Bg1).cl rfl)) fun _ f=>?_;refine L.va f (E.neq f rfl rfl) fun _ f=>?_;refine wn k1 ?_;have f:=f.pk [2,3,4,9];refine f.splitN 9 rfl (fun h0 f=>?_) (fun h0 f=>?_)
 ·have e1:=h0;refine C.condT f rfl ?_;refine C.sk fun _ k1=>?_;refine L.fa 0 f U46 rfl Z0 fun _ f29=>?_;refine L.va f29 (E.load f29 U3 rfl rfl ((Bg0).cl rfl)) fun _ f29=>?_;refine L.fa 0 f29 U46 rfl Z0 fun _ f29=>?_;refine L.va f29 (E.load f29 U3 rfl rfl ((Bg1).cl rfl)) fun _ f29=>?_;refine L.va f29 (E.lss f29 rfl rfl) fun _ f29=>?_;refine L.ag f29 fun _ f29=>?_;have f29:=f29.pk [2,3,4];refine wn k1 (wp_ret ?_); (try simp only [xt,xb]); refine C.ret f29 rfl rfl ?_;exact ⟨HK,by rw [befR1 e1]⟩
 have e1:=h0;refine C.condF f rfl ?_;refine wp_skip (k _ _ ?_);have f:=f.pk [2,3,4];refine wp_seq_k fun _ k=>C.sk fun _ k1=>?_;refine L.fa 1 f U46 rfl Z0 fun _ f=>?_;refine L.va f (E.load f U3 rfl rfl ((Bg0).cl rfl)) fun _ f=>?_;refine L.fa 1 f U46 rfl Z0 fun _ f=>?_;refine L.va f (E.load f U3 rfl rfl ((Bg1).cl rfl)) fun _ f=>?_;refine L.va f (E.neq f rfl rfl) fun _ f=>?_;refine wn k1 ?_;have f:=f.pk [2,3,4,19];refine f.splitN 19 rfl (fun h1 f=>?_) (fun h1 f=>?_)
 ·have e2:=h1;refine C.condT f rfl ?_;refine C.sk fun _ k1=>?_;refine L.fa 1 f U46 rfl Z0 fun _ f29=>?_;refine L.va f29 (E.load f29 U3 rfl rfl ((Bg0).cl rfl)) fun _ f29=>?_;refine L.fa 1 f29 U46 rfl Z0 fun _ f29=>?_;refine L.va f29 (E.load f29 U3 rfl rfl ((Bg1).cl rfl)) fun _ f29=>?_;refine L.va f29 (E.lss f29 rfl rfl) fun _ f29=>?_;refine L.ag f29 fun _ f29=>?_;have f29:=f29.pk [2,3,4];refine wn k1 (wp_ret ?_); (try simp only [xt,xb]); refine C.ret f29 rfl rfl ?_;exact ⟨HK,by rw [befR2 (by simpa using e1) e2]⟩
 have e2:=h1;refine C.condF f rfl ?_;refine wp_skip (k _ _ ?_);have f:=f.pk [2,3,4];refine C.sk fun _ k=>?_;refine L.fa 2 f U46 rfl Z0 fun _ f=>?_;refine L.va f (E.load f U3 rfl rfl ((Bg0).cl rfl)) fun _ f=>?_;refine L.fa 2 f U46 rfl Z0 fun _ f=>?_;refine L.va f (E.load f U3 rfl rfl ((Bg1).cl rfl)) fun _ f=>?_;refine L.va f (E.lss f rfl rfl) fun _ f=>?_;refine L.ag f fun _ f=>?_;have f:=f.pk [4];refine wn k (wp_ret ?_); (try simp only [xt,xb]); refine C.ret f rfl rfl ?_;exact ⟨HK,by rw [befR3 (by simpa using e1) (by simpa using e2)]⟩
end Go.Proofs.YtekmhcdgmgbheaaGreatDoor
namespace Go.Hub
open Go.RowKit Go.Lib
def Iter (w : World) (g : Nat) (s : ByteArray) (pos : Nat) : Prop:=w.heap[g]? = some (.stringIter s pos)
def nextV (s : ByteArray) (pos : Nat) : Array Value:=if pos < s.size then #[.bool true,.int .i64 pos,.int .i32 (Utf8.decode s pos).1] else #[.bool false]
def nextP (s : ByteArray) (pos : Nat) : Nat:=if pos < s.size then pos + (Utf8.decode s pos).2 else pos
section
variable {w w' : World} {g : Nat} {s : ByteArray} {pos : Nat} {L : List Nat}
theorem Iter.lt (h : Iter w g s pos) : g < w.heap.size:=(Array.getElem?_eq_some_iff.1 h).1
theorem Iter.kept (h : Iter w g s pos) (hk : Kept L w w') (hg : g ∉ L) : Iter w' g s pos:=(hk.block g h.lt hg).trans h
theorem nextV_ok : (nextV s pos)[0]? = some (.bool (decide (pos < s.size))):=by
  unfold nextV
  split
  · rename_i h; simp [h]
  rename_i h; simp [h]
theorem nextV_pos (h : pos < s.size) : (nextV s pos)[1]? = some (.int .i64 pos):=by unfold nextV; rw [if_pos h]; rfl
theorem nextV_rune (h : pos < s.size) : (nextV s pos)[2]? = some (.int .i32 (Utf8.decode s pos).1):=by unfold nextV; rw [if_pos h]; rfl
theorem nextP_at (h : pos < s.size) : nextP s pos = pos + (Utf8.decode s pos).2:=by unfold nextP; rw [if_pos h]
end
section
variable {P : Program} {ops : Array Oper} {rest : List Oper} {a : Act} {w : World} {Q : Exit → Act → World → Prop} {n d : Nat} {l : FL} {ty : TypeId} {ps : String} {af : Array Edge} {gd : Option (Nat × Bool)} {x : Operand} {t : TypeId}
theorem L.range (f : Fr n a l) (hw : Region.wanted ⟨some d, .range t x, ty, ps, af, gd⟩ (yielded ops a.tmps) = true) (hn : d < n) {s : ByteArray} (ht : P.underlying t = some .string) (hx : evl l x = some (.string s))
    (hK : ∀ a' w' g,Iter w' g s 0 → Kept [] w w' → w.heap.size ≤ g → Fr n a' ((d,.pointer (some ⟨g,0,none⟩)) :: l) → wpList P ops Q rest a' w') : wpList P ops Q (⟨some d,.range t x,ty,ps,af,gd⟩ :: rest) a w:=
  L.val (v:=.pointer (some ⟨w.heap.size,0,none⟩)) (w':=w.iter s 0) f hw rfl hn (by simp [execOp,f.ev hx,run_range_string w t s ht]) fun a' f'=>hK a' _ _ (World.iter_heap w s 0) ((Kept.refl [] w).alloc _) (Nat.le_refl _) f'
theorem L.next (f : Fr n a l) (hw : Region.wanted ⟨some d, .next x true, ty, ps, af, gd⟩ (yielded ops a.tmps) = true) (hn : d < n) {g : Nat} {s : ByteArray} {pos : Nat} (hx : evl l x = some (.pointer (some ⟨g, 0, none⟩))) (h : Iter w g s pos)
    (hK : ∀ a' w',Iter w' g s (nextP s pos) → Kept [g] w w' → Fr n a' ((d,.tuple (nextV s pos)) :: l) → wpList P ops Q rest a' w') : wpList P ops Q (⟨some d,.next x true,ty,ps,af,gd⟩ :: rest) a w:=by
  by_cases hp : pos < s.size
  · have hr := run_next_any_at (P := P) w g s pos ty h hp
    refine L.val (v:=.tuple (nextV s pos)) (w':=w.iterAt g s (pos + (Utf8.decode s pos).2)) f hw rfl hn (by simp [execOp,f.ev hx,hr,nextV,hp]) fun a' f'=>hK a' _ (by rw [nextP_at hp]; exact iterAt_heap w g s pos _ h) ⟨rfl,rfl,rfl,by rw [iterAt_size]; exact Nat.le_refl _,fun j _ hj=>iterAt_other w g j s _ (by simpa using hj)⟩ f'
  have hr:=run_next_end_at (P:=P) w g s pos ty h hp;refine L.val (v:=.tuple (nextV s pos)) (w':=w) f hw rfl hn (by simp [execOp,f.ev hx,hr,nextV,hp]) fun a' f'=>hK a' _ (by unfold nextP; rw [if_neg hp]; exact h) (Kept.refl _ _) f'
end
end Go.Hub
namespace Go.Proofs.YtekmhcdgmgbheaaGreatDoor
open Go.RowKit Go.Hub
def wildI (r : Int) : Bool:=decide (r = 43) || decide (r = 35)
def hasB (s : ByteArray) (c : UInt8) : Bool:=s.toList.contains c
def prefB (s p : ByteArray) : Bool:=decide (p.size ≤ s.size) && decide (s.extract 0 p.size = p)
theorem byte_at (s : ByteArray) (j : Nat) : s[j]? = s.data[j]?:=by
  by_cases h : j < s.size
  · rw [getElem?_pos s j h,Array.getElem?_eq_getElem (xs:=s.data) h]; rfl
  rw [getElem?_neg s j h,Array.getElem?_eq_none (xs:=s.data) (by simpa using h)]
theorem has_no {s : ByteArray} {c : UInt8} {k : Nat} (hq : ∀ j b,j < k → s[j]? = some b → b ≠ c) (h : s.size ≤ k) : hasB s c = false:=by
  unfold hasB;rw [List.contains_eq_mem];simp only [decide_eq_false_iff_not];intro hm;rw [ByteArray.toList_eq] at hm;obtain ⟨j,hj,he⟩:=List.getElem_of_mem hm;have hj' : j < s.size:=by simpa using hj
  refine hq j c (by omega) ?_ rfl;rw [byte_at,← Array.getElem?_toList,List.getElem?_eq_getElem hj,he]
theorem has_yes {s : ByteArray} {c : UInt8} {k : Nat} {b : UInt8} (hb : s[(k : Int).toNat]? = some b) (h : ((b.toNat : Nat) : Int) = ((c.toNat : Nat) : Int)) : hasB s c = true:=by
  have e : b = c:=UInt8.toNat_inj.1 (by omega);subst e;unfold hasB;rw [List.contains_eq_mem,ByteArray.toList_eq];rw [Int.toNat_natCast,byte_at,← Array.getElem?_toList] at hb
  simpa using List.mem_of_getElem? hb
theorem has_next {s : ByteArray} {c : UInt8} {k : Nat} {b : UInt8} (hq : ∀ j b,j < k → s[j]? = some b → b ≠ c) (hb : s[k]? = some b) (h : ¬ ((b.toNat : Nat) : Int) = ((c.toNat : Nat) : Int)) : ∀ j b,j < k + 1 → s[j]? = some b → b ≠ c:=by
  intro j b' hj hb'
  by_cases e : j = k
  · subst e
    rw [hb] at hb';cases hb';exact fun e=>h (by rw [e])
  exact hq j b' (by omega) hb'
theorem wild_any (r : Int) (w : World) : Calls Tryz.prog 60 #[.int .i32 r] w (fun e w'=>w = w' ∧ e = .returned (.bool (wildI r))):=by
 refine C.enter Tryz.func60 rfl Tryz.ntmps60 rfl ?_;intro a f;have f : Fr 9 a [(0,.int .i32 r)]:=f;refine C.sk fun _ k=>?_;refine L.ag f fun _ f=>?_;have f:=f.pk [0,2];refine wn k (C.sk fun _ k=>?_);refine L.mv f fun _ f=>?_;refine L.va f (E.eql f rfl rfl) fun _ f=>?_;refine L.mv f fun _ f=>?_;refine f.splitD 5 rfl (fun h0 f=>?_) (fun h0 f=>?_)
 ·refine L.run f (rest':=[]) (by kernel_rfl) fun _ f13=>?_;have f13:=f13.sub (sv 2 (.bool true) sn);refine wn k (wp_ret ?_); (try simp only [xt,xb]); refine C.ret f13 rfl rfl ?_;exact ⟨rfl,by simp [wildI, *]⟩
 refine L.mv f (hw:=f.y) fun _ f=>?_;refine L.va f (E.eql f rfl rfl) (hw:=f.y) fun _ f=>?_;refine L.va f (E.pickF f rfl rfl) fun _ f=>?_;refine L.ag f fun _ f=>?_;have f:=f.pk [2];refine wn k (wp_ret ?_); (try simp only [xt,xb]); refine C.ret f rfl rfl ?_;exact ⟨rfl,by simp [wildI, *]⟩
theorem has_any (s : ByteArray) (c : UInt8) (w : World) (hs : s.size ≤ 1000000) : Calls Tryz.prog 75 #[.string s,.int .u8 c.toNat] w (fun e w'=>w = w' ∧ e = .returned (.bool (hasB s c))):=by
 refine C.enter Tryz.func75 rfl Tryz.ntmps75 rfl ?_;intro a1 f;have f : Fr 17 a1 [(0,.string s),(1,.int .u8 c.toNat)]:=f;refine C.sk fun _ k1=>?_;refine L.ag f fun _ f=>?_;refine wn k1 ?_;have f:=f.pk [0,1,4];refine wp_seq_k fun _ k1=>C.sk fun _ k2=>?_;refine L.ag f fun _ f=>?_;refine wn k2 ?_;have f:=f.pk [0,1,4,5];refine wp_block ?_;refine C.loop (fun gk a W=>w = W ∧ ∃ k : Nat,k + gk = s.size ∧ (∀ j b,j < k → s[j]? = some b → b ≠ c) ∧ Fr 17 a [(0,.string s),(1,.int .u8 c.toNat),(5,.int .i64 k)]) (s.size) ?_ ?_
 ·exact ⟨rfl,0,by omega,by omega,f.sub (sx (sx (sx sn)))⟩
 intro gk4 _ w1 hI KL3 hKL3;obtain ⟨hW,k,hk,hq,f25⟩:=hI;subst hW
 try clear f
 refine wp_seq_k fun _ k2=>C.sk fun _ k3=>?_;refine L.mv f25 fun _ f=>?_;refine L.mv f fun _ f=>?_;refine L.va f (E.lenS f U9 rfl) fun _ f=>?_;refine L.va f (E.lss f rfl rfl) fun _ f=>?_;refine wn k3 ?_;have f:=f.pk [0,1,5,6,7,8,9];refine f.splitD 9 rfl (fun h0 f=>?_) (fun h0 f=>?_)
 ·obtain ⟨b,hb⟩ : ∃ b,s[k]? = some b:=⟨s[k]'(by omega),getElem?_pos s k (by omega)⟩;refine C.condT f rfl ?_;refine wp_skip (k2 _ _ ?_);have f25:=f.pk [0,1,5,6,7,8,9];refine wp_seq_k fun _ k2=>?_;refine wp_block ?_;refine C.sk fun _ k3=>?_;refine L.mv f25 fun _ f25=>?_;refine L.mv f25 fun _ f25=>?_;refine L.va f25 (E.indexS f25 U9 rfl rfl (by omega) (by assumption)) fun _ f25=>?_;refine L.mv f25 fun _ f25=>?_;refine L.va f25 (E.eql f25 rfl rfl) fun _ f25=>?_;refine wn k3 ?_;have f25:=f25.pk [0,1,5,6,7,8,9,12,13,14,15,16];refine f25.splitD 16 rfl (fun h1 f25=>?_) (fun h1 f25=>?_)
  ·have hbc:=h1;refine C.condT f25 rfl ?_;refine C.sk fun _ k3=>?_;refine L.ag f25 fun _ f26=>?_;have f26:=f26.pk [0,1,4,5,6,7,8,9,12,13,14,15,16];refine wn k3 (wp_ret ?_); (try simp only [xt,xb]); refine C.ret f26 rfl rfl ?_;exact ⟨rfl,by rw [has_yes hb hbc]⟩
  have hbc:=h1;refine C.condF f25 rfl ?_;refine wp_skip (k2 _ _ ?_);have f25:=f25.pk [0,1,5,6,7,8,9,12,13,14,15,16];refine C.region ?_;refine L.mv f25 fun _ f25=>?_;refine L.va f25 (E.add f25 rfl rfl (IntWalk.i64_in _ (by omega))) fun _ f25=>?_;refine L.ag f25 fun _ f25=>?_;refine wpList_nil (hKL3 _ _ (gk4 - 1) ?_ ?_)
  ·omega
  exact ⟨rfl,k + 1,by omega,has_next hq hb hbc,f25.sub (sx (sx (sx sn)))⟩
 refine C.condF f rfl ?_;refine wp_exit (k1 _ _ ?_);have f:=f.sub sn;refine C.sk fun _ k1=>?_;refine L.ag f fun _ f=>?_;have f:=f.pk [4];refine wn k1 (wp_ret ?_); (try simp only [xt,xb]); refine C.ret f rfl rfl ?_;exact ⟨rfl,by rw [has_no hq (by omega)]⟩
theorem prefl_any (s p : ByteArray) (w : World) : Calls Tryz.prog 123 #[.string s,.string p] w (fun e w'=>w = w' ∧ e = .returned (.bool (prefB s p))):=by
 refine C.enter Tryz.func123 rfl Tryz.ntmps123 rfl ?_;intro a f;have f : Fr 18 a [(0,.string s),(1,.string p)]:=f;refine C.sk fun _ k=>?_;refine L.ag f fun _ f=>?_;have f:=f.pk [0,1,4];refine wn k (C.sk fun _ k=>?_);refine L.mv f fun _ f=>?_;refine L.va f (E.lenS f U9 rfl) fun _ f=>?_;refine L.mv f fun _ f=>?_;refine L.va f (E.lenS f U9 rfl) fun _ f=>?_;refine L.va f (E.geq f rfl rfl) fun _ f=>?_;refine L.mv f fun _ f=>?_;refine f.splitD 10 rfl (fun h0 f=>?_) (fun h0 f=>?_)
 ·refine L.mv f (hw:=f.y) fun _ f20=>?_;refine L.mv f20 (hw:=f20.y) fun _ f20=>?_;refine L.va f20 (E.lenS f20 U9 rfl) (hw:=f20.y) fun _ f20=>?_;refine L.va f20 (E.slShi f20 U9 rfl rfl (by omega) (by omega) ) (hw:=f20.y) fun _ f20=>?_;refine L.mv f20 (hw:=f20.y) fun _ f20=>?_;refine L.va f20 (E.eqlS f20 rfl rfl) (hw:=f20.y) fun _ f20=>?_;refine L.va f20 (E.pickT f20 rfl rfl) fun _ f20=>?_;refine L.ag f20 fun _ f20=>?_;have f20:=f20.pk [4];refine wn k (wp_ret ?_); (try simp only [xt,xb]); refine C.ret f20 rfl rfl ?_;exact ⟨rfl,by have h0':=h0; simp only [Int.ofNat_le] at h0'; simp [prefB,h0']⟩
 refine L.run f (rest':=[]) (by kernel_rfl) fun _ f=>?_;have f:=f.sub (sv 4 (.bool false) sn);refine wn k (wp_ret ?_); (try simp only [xt,xb]); refine C.ret f rfl rfl ?_;exact ⟨rfl,by have h0':=h0; simp only [Int.ofNat_le] at h0'; simp [prefB,h0']⟩
theorem pref_any (s p : ByteArray) (w : World) : Calls Tryz.prog 111 #[.string s,.string p] w (fun e w'=>w = w' ∧ e = .returned (.bool (prefB s p))):=by
 refine C.enter Tryz.func111 rfl Tryz.ntmps111 rfl ?_;intro a f;have f : Fr 8 a [(0,.string s),(1,.string p)]:=f;refine C.sk fun _ k=>?_;refine L.ag f fun _ f=>?_;have f:=f.pk [0,1,4];refine wn k (C.sk fun _ k=>?_);refine L.mv f fun _ f=>?_;refine L.mv f fun _ f=>?_;refine L.cl f (rc2 f Tryz.call123) (prefl_any s p _) ?_;rintro e wx ⟨rfl,rfl⟩;refine ⟨_,rfl,fun _ f=>?_⟩;refine L.ag f fun _ f=>?_;have f:=f.pk [4];refine wn k (wp_ret ?_); (try simp only [xt,xb]); refine C.ret f rfl rfl ?_;exact ⟨rfl,rfl⟩
theorem hidden_any (s : ByteArray) (w : World) : Calls Tryz.prog 82 #[.string s] w (fun e w'=>w = w' ∧ e = .returned (.bool (prefB s ⟨#[36]⟩))):=by
 refine C.enter Tryz.func82 rfl Tryz.ntmps82 rfl ?_;intro a f;have f : Fr 5 a [(0,.string s)]:=f;refine C.sk fun _ k=>?_;refine L.ag f fun _ f=>?_;have f:=f.pk [0,2];refine wn k (C.sk fun _ k=>?_);refine L.mv f fun _ f=>?_;refine L.cl f (rc2 f Tryz.call111) (pref_any s _ _) ?_;rintro e wx ⟨rfl,rfl⟩;refine ⟨_,rfl,fun _ f=>?_⟩;refine L.ag f fun _ f=>?_;have f:=f.pk [2];refine wn k (wp_ret ?_); (try simp only [xt,xb]); refine C.ret f rfl rfl ?_;exact ⟨rfl,rfl⟩
end Go.Proofs.YtekmhcdgmgbheaaGreatDoor
namespace Go.Proofs.YtekmhcdgmgbheaaGreatDoor
open Go.RowKit Go.Hub
theorem Z8 : (Tryz.prog.info? 9).map (·.size) = some 1:=by kernel_rfl
def Ss (w : World) (A : Option Addr) (l : List ByteArray) : Prop:=Sl w A l.length 1 (l.map .string)
def tailA (A : Option Addr) (c : Nat) : Option Addr:=if c = 1 then A else A.map (·.add 1)
section
variable {w w' : World} {A : Option Addr} {l : List ByteArray} {x : ByteArray} {b off k c : Nat}
theorem Ss.kept (h : Ss w A l) (hk : Kept [] w w') : Ss w' A l:=Sl.kept h hk
theorem Ss.addr (h : Ss w A l) (hk : k < l.length) : ∃ b off,A = some ⟨b,off,none⟩:=Sl.addr h (by omega)
theorem ss_cell (h : Ss w A l) (hA : A = some ⟨b,off,none⟩) (hx : l[k]? = some x) : w.cell? ⟨b,off + Int.toNat (k : Int) * 1,none⟩ = some (.string x):=by
  have hk:=(List.getElem?_eq_some_iff.1 hx).1;rw [Int.toNat_natCast,Nat.mul_one];exact Sl.cell h (by omega) hA (by simp [hx])
theorem ss_cell0 (h : Ss w A l) (hA : A = some ⟨b,off,none⟩) (hx : l[0]? = some x) : w.cell? ⟨b,off + Int.toNat 0 * 1,none⟩ = some (.string x):=ss_cell h hA hx
theorem Ss.nil (w : World) (A : Option Addr) : Ss w A []:=Sl.nil w A 1
theorem Ss.tail (h : Ss w A l) (hc : l.length ≤ c) : Ss w (tailA A c) (l.drop 1):=by
  unfold tailA
  match l with
  | []=>exact Ss.nil _ _
  | x :: l=>
    by_cases e : c = 1
    · have : l = []:=by
        simp at hc;exact List.eq_nil_of_length_eq_zero (by omega)
      subst this;exact Ss.nil _ _
    rw [if_neg e];refine ⟨by simp,fun hn=>?_⟩;obtain ⟨b,off,hA,hb,hq⟩:=h.2 (by simp);refine ⟨b,off + 1,by rw [hA]; rfl,hb,fun j u hu=>?_⟩;rw [Nat.add_assoc,Nat.add_comm 1 j];exact hq (j + 1) u (by simpa using hu)
end
def goesB : List ByteArray → List ByteArray → Bool
  | [],t=>decide (((t.length : Nat) : Int) = 0)
  | x :: f,t=>decide (x = ⟨#[35]⟩) || match t with
    | []=>false
    | y :: t=>(decide (x = ⟨#[43]⟩) || decide (x = y)) && goesB f t
section
variable {us vs : List ByteArray} {x y : ByteArray}
theorem nil_of {l : List ByteArray} (h : l.length = 0) : l = []:=List.eq_nil_of_length_eq_zero h
theorem cons_of {l : List ByteArray} (h : l[0]? = some x) : l = x :: l.drop 1:=by
  match l with
  | []=>simp at h
  | a :: r=>simp at h; simp [h]
theorem goes_nil (h : us.length = 0) : goesB us vs = decide (((vs.length : Nat) : Int) = 0):=by rw [nil_of h]; rfl
theorem goes_hash (hx : us[0]? = some x) (h : x = ⟨#[35]⟩) : goesB us vs = true:=by rw [cons_of hx]; cases vs <;> simp [goesB,h]
theorem goes_end (hx : us[0]? = some x) (h : ¬ x = ⟨#[35]⟩) (h' : vs.length = 0) : goesB us vs = false:=by rw [cons_of hx,nil_of h',goesB]; simp [h]
theorem goes_step (hx : us[0]? = some x) (hy : vs[0]? = some y) (h : ¬ x = ⟨#[35]⟩) : goesB us vs = ((decide (x = ⟨#[43]⟩) || decide (x = y)) && goesB (us.drop 1) (vs.drop 1)):=by
  conv=>lhs; rw [cons_of hx,cons_of hy,goesB]
  simp [h]
end
theorem goes_one (us vs : List ByteArray) (A A' : Option Addr) (c c' : Nat) (w : World) (A1 : Ss w A us) (A2 : Ss w A' vs) (hc : us.length ≤ c) (hc' : vs.length ≤ c') (hl : us.length ≤ 1000000) (hl' : vs.length ≤ 1000000) (ih : ∀ (us' vs' : List ByteArray) (A A' : Option Addr) (c c' : Nat) (w : World),us'.length < us.length → Ss w A us' → Ss w A' vs' → us'.length ≤ c → vs'.length ≤ c' → us'.length ≤ 1000000 → vs'.length ≤ 1000000 → Calls Tryz.prog 83 #[.slice A us'.length c,.slice A' vs'.length c'] w (fun e w'=>Kept [] w w' ∧ e = .returned (.bool (goesB us' vs')))) : Calls Tryz.prog 83 #[.slice A us.length c,.slice A' vs.length c'] w (fun e w'=>Kept [] w w' ∧ e = .returned (.bool (goesB us vs))):=by
 have HK : Kept [] w w:=Kept.refl [] w;refine C.enter Tryz.func83 rfl Tryz.ntmps83 rfl ?_;intro a f;have f : Fr 41 a [(0,.slice A us.length c),(1,.slice A' vs.length c')]:=f;refine C.sk fun _ k1=>?_;refine L.ag f fun _ f=>?_;refine wn k1 ?_;have f:=f.pk [0,1,4];refine wp_seq_k fun _ k1=>?_;refine wp_block ?_;refine C.sk fun _ k2=>?_;refine L.mv f fun _ f=>?_;refine L.va f (E.lenL f U62 rfl) fun _ f=>?_;refine L.va f (E.eql f rfl rfl) fun _ f=>?_;refine L.ag f fun _ f=>?_;refine wn k2 ?_;have f:=f.pk [0,1,4,5];refine f.splitD 5 rfl (fun h0 f=>?_) (fun h0 f=>?_)
 ·refine C.condT f rfl ?_;refine C.sk fun _ k2=>?_;refine L.mv f fun _ f48=>?_;refine L.va f48 (E.lenL f48 U62 rfl) fun _ f48=>?_;refine L.va f48 (E.eql f48 rfl rfl) fun _ f48=>?_;refine L.ag f48 fun _ f48=>?_;have f48:=f48.pk [0,1,4];refine wn k2 (wp_ret ?_); (try simp only [xt,xb]); refine C.ret f48 rfl rfl ?_;exact ⟨HK,by rw [goes_nil (by omega)]⟩
 obtain ⟨x,hx⟩ : ∃ x,us[0]? = some x:=⟨us[0]'(by omega),List.getElem?_eq_getElem _⟩;obtain ⟨b1,o1,hA⟩:=A1.addr (k:=0) (by omega);refine C.condF f rfl ?_;refine C.sk fun _ k2=>?_;refine L.mv f fun _ f=>?_;refine L.va f (E.indexA f (by assumption) U62 Z8 rfl rfl (by omega) (by omega)) fun _ f=>?_;refine L.va f (E.load f U9 rfl rfl (ss_cell0 (A1.kept HK) hA hx)) fun _ f=>?_;refine L.va f (E.eqlS f rfl rfl) fun _ f=>?_;refine L.ag f fun _ f=>?_;refine wn k2 ?_;have f:=f.pk [0,1,4,12];refine f.splitD 12 rfl (fun h1 f=>?_) (fun h1 f=>?_)
 ·have h12:=h1;refine C.condT f rfl ?_;refine C.sk fun _ k2=>?_;refine L.ag f fun _ f48=>?_;have f48:=f48.pk [0,1,4];refine wn k2 (wp_ret ?_); (try simp only [xt,xb]); refine C.ret f48 rfl rfl ?_;exact ⟨HK,by rw [goes_hash hx h12]⟩
 have h12:=h1;refine C.condF f rfl ?_;refine C.sk fun _ k2=>?_;refine L.mv f fun _ f=>?_;refine L.va f (E.lenL f U62 rfl) fun _ f=>?_;refine L.va f (E.eql f rfl rfl) fun _ f=>?_;refine L.ag f fun _ f=>?_;refine wn k2 ?_;have f:=f.pk [0,1,4,17];refine f.splitD 17 rfl (fun h2 f=>?_) (fun h2 f=>?_)
 ·refine C.condT f rfl ?_;refine C.sk fun _ k2=>?_;refine L.ag f fun _ f48=>?_;have f48:=f48.pk [0,1,4];refine wn k2 (wp_ret ?_); (try simp only [xt,xb]); refine C.ret f48 rfl rfl ?_;exact ⟨HK,by rw [goes_end hx h12 (by omega)]⟩
 obtain ⟨y,hy⟩ : ∃ y,vs[0]? = some y:=⟨vs[0]'(by omega),List.getElem?_eq_getElem _⟩;obtain ⟨b2,o2,hA'⟩:=A2.addr (k:=0) (by omega);refine C.condF f rfl ?_;refine wp_skip (k1 _ _ ?_);have f:=f.pk [0,1,4];refine wp_seq_k fun _ k1=>?_;refine R.begin (S:=fun W=>Kept [] w W) (by kernel_rfl) (by exact (Kept.refl _ _).drewN 1) ?_;have s : Kept [] w (w.drewN 1):=(Kept.refl _ _).drewN 1;have hd7 : Kept [] w (w.drewN 1):=(Kept.refl _ _).drewN 1;obtain ⟨w1,hww1⟩ : ∃ W,W = w.drewN 1:=⟨_,rfl⟩;rw [← hww1] at s hd7 ⊢;clear hww1;have szw1:=s.size;refine R.mv 0 f rfl s fun _ f=>?_;refine R.p 1 f rfl s (E.indexA f (by assumption) U62 Z8 rfl rfl (by omega) (by omega)) fun _ f=>?_;refine R.t 2 f rfl s (fun W hW=>(E.load f U9 rfl rfl (ss_cell0 (A1.kept (HK.z hW)) hA hx))) fun _ f=>?_;refine R.p 3 f rfl s (E.eqlS f rfl rfl) fun _ f=>?_;refine R.mv 4 f rfl s fun _ f=>?_;refine f.splitD 25 rfl (fun h3 f=>?_) (fun h3 f=>?_)
 ·refine R.ts 5 f rfl s f.nF fun _ f48=>?_;refine R.ts 6 f48 rfl s f48.nF fun _ f48=>?_;refine R.ts 7 f48 rfl s f48.nF fun _ f48=>?_;refine R.ts 8 f48 rfl s f48.nF fun _ f48=>?_;refine R.ts 9 f48 rfl s f48.nF fun _ f48=>?_;refine R.ts 10 f48 rfl s f48.nF fun _ f48=>?_;refine R.ts 11 f48 rfl s f48.nF fun _ f48=>?_;refine R.p 12 f48 rfl s (E.pickT f48 rfl rfl) fun _ f48=>?_;refine R.mv 13 f48 rfl s fun _ f48=>?_;refine R.mv 14 f48 rfl s (hw:=f48.y) fun _ f48=>?_;refine R.p 15 f48 rfl s (E.slLlo f48 U62 Z8 rfl rfl (by omega) (by omega) ) (hw:=f48.y) fun _ f48=>?_;refine R.mv 16 f48 rfl s (hw:=f48.y) fun _ f48=>?_;refine R.p 17 f48 rfl s (E.slLlo f48 U62 Z8 rfl rfl (by omega) (by omega) ) (hw:=f48.y) fun _ f48=>?_;replace f48:=f48.as (i:=36) (v':=.slice (tailA A c) (us.drop 1).length (c - 1)) rfl (by rw [List.length_drop]; rfl);replace f48:=f48.as (i:=38) (v':=.slice (tailA A' c') (vs.drop 1).length (c' - 1)) rfl (by rw [List.length_drop]; rfl);refine R.call 18 f48 rfl rfl (by decide) (by kernel_rfl) f48.y (rc2 f48 Tryz.call83) (ih (us.drop 1) (vs.drop 1) _ _ _ _ w1 (by rw [List.length_drop]; omega) ((A1.kept (HK.z s)).tail hc) ((A2.kept (HK.z s)).tail hc') (by rw [List.length_drop]; omega) (by rw [List.length_drop]; omega) (by rw [List.length_drop]; omega) (by rw [List.length_drop]; omega)) ?_;rintro e w2 ⟨q,rfl⟩;replace s:=s.trans q (by simp);refine ⟨_,rfl,s,fun _ f48=>?_⟩;have szw2:=q.size;clear q
  refine R.p 19 f48 rfl s (E.pickT f48 rfl rfl) fun _ f48=>?_;refine R.p 20 f48 rfl s (E.assign f48 rfl) fun _ f48=>?_;have szw2r:=s.size;replace HK:=HK.z s;clear s;refine R.done (by kernel_rfl) (k1 _ _ ?_);have f48:=f48.pk [4];refine wp_ret ?_; (try simp only [xt,xb]); refine C.ret f48 rfl rfl ?_;exact ⟨HK,by rw [goes_step hx hy h12]; simp [*]⟩
 refine R.mv 5 f rfl s (hw:=f.y) fun _ f=>?_;refine R.p 6 f rfl s (E.indexA f (by assumption) U62 Z8 rfl rfl (by omega) (by omega)) (hw:=f.y) fun _ f=>?_;refine R.t 7 f rfl s (fun W hW=>(E.load f U9 rfl rfl (ss_cell0 (A1.kept (HK.z hW)) hA hx))) (hw:=f.y) fun _ f=>?_;refine R.mv 8 f rfl s (hw:=f.y) fun _ f=>?_;refine R.p 9 f rfl s (E.indexA f (by assumption) U62 Z8 rfl rfl (by omega) (by omega)) (hw:=f.y) fun _ f=>?_;refine R.t 10 f rfl s (fun W hW=>(E.load f U9 rfl rfl (ss_cell0 (A2.kept (HK.z hW)) hA' hy))) (hw:=f.y) fun _ f=>?_;refine R.p 11 f rfl s (E.eqlS f rfl rfl) (hw:=f.y) fun _ f=>?_;refine R.p 12 f rfl s (E.pickF f rfl rfl) fun _ f=>?_;refine R.mv 13 f rfl s fun _ f=>?_;refine f.splitD 34 rfl (fun h4 f=>?_) (fun h4 f=>?_)
 ·have h34:=h4;refine R.mv 14 f rfl s (hw:=f.y) fun _ f48=>?_;refine R.p 15 f48 rfl s (E.slLlo f48 U62 Z8 rfl rfl (by omega) (by omega) ) (hw:=f48.y) fun _ f48=>?_;refine R.mv 16 f48 rfl s (hw:=f48.y) fun _ f48=>?_;refine R.p 17 f48 rfl s (E.slLlo f48 U62 Z8 rfl rfl (by omega) (by omega) ) (hw:=f48.y) fun _ f48=>?_;replace f48:=f48.as (i:=36) (v':=.slice (tailA A c) (us.drop 1).length (c - 1)) rfl (by rw [List.length_drop]; rfl);replace f48:=f48.as (i:=38) (v':=.slice (tailA A' c') (vs.drop 1).length (c' - 1)) rfl (by rw [List.length_drop]; rfl);refine R.call 18 f48 rfl rfl (by decide) (by kernel_rfl) f48.y (rc2 f48 Tryz.call83) (ih (us.drop 1) (vs.drop 1) _ _ _ _ w1 (by rw [List.length_drop]; omega) ((A1.kept (HK.z s)).tail hc) ((A2.kept (HK.z s)).tail hc') (by rw [List.length_drop]; omega) (by rw [List.length_drop]; omega) (by rw [List.length_drop]; omega) (by rw [List.length_drop]; omega)) ?_;rintro e w2 ⟨q,rfl⟩;replace s:=s.trans q (by simp);refine ⟨_,rfl,s,fun _ f48=>?_⟩;have szw2:=q.size;clear q;refine R.p 19 f48 rfl s (E.pickT f48 rfl rfl) fun _ f48=>?_;refine R.p 20 f48 rfl s (E.assign f48 rfl) fun _ f48=>?_;have szw2r:=s.size;replace HK:=HK.z s;clear s;refine R.done (by kernel_rfl) (k1 _ _ ?_);have f48:=f48.pk [4];refine wp_ret ?_; (try simp only [xt,xb]); refine C.ret f48 rfl rfl ?_;exact ⟨HK,by rw [goes_step hx hy h12]; simp [*]⟩
 have h34:=h4;refine R.ts 14 f rfl s f.nT fun _ f=>?_;refine R.ts 15 f rfl s f.nT fun _ f=>?_;refine R.ts 16 f rfl s f.nT fun _ f=>?_;refine R.ts 17 f rfl s f.nT fun _ f=>?_;refine R.ts 18 f rfl s f.nT fun _ f=>?_;refine R.p 19 f rfl s (E.pickF f rfl rfl) fun _ f=>?_;refine R.p 20 f rfl s (E.assign f rfl) fun _ f=>?_;have szw1r:=s.size;replace HK:=HK.z s;clear s;refine R.done (by kernel_rfl) (k1 _ _ ?_);have f:=f.pk [4];refine wp_ret ?_; (try simp only [xt,xb]); refine C.ret f rfl rfl ?_;exact ⟨HK,by rw [goes_step hx hy h12]; simp [*]⟩
theorem goes_any (us vs : List ByteArray) (A A' : Option Addr) (c c' : Nat) (w : World) (A1 : Ss w A us) (A2 : Ss w A' vs) (hc : us.length ≤ c) (hc' : vs.length ≤ c') (hl : us.length ≤ 1000000) (hl' : vs.length ≤ 1000000) :
    Calls Tryz.prog 83 #[.slice A us.length c,.slice A' vs.length c'] w (fun e w'=>Kept [] w w' ∧ e = .returned (.bool (goesB us vs))):=by
  generalize hn : us.length = n
  induction n using Nat.strongRecOn generalizing us vs A A' c c' w with
  | _ n ih=>
    subst hn;exact goes_one us vs A A' c c' w A1 A2 hc hc' hl hl' fun us' vs' A A' c c' w h a1 a2 a3 a4 a5 a6=>ih us'.length h us' vs' A A' c c' w a1 a2 a3 a4 a5 a6 rfl
end Go.Proofs.YtekmhcdgmgbheaaGreatDoor
namespace Go.Proofs.YtekmhcdgmgbheaaGreatDoor
open Go.RowKit Go.Hub
def wildU (b : UInt8) : Bool:=wildI b.toNat
def anyW (s : ByteArray) : Bool:=s.toList.any wildU
theorem get_some {s : ByteArray} {j : Nat} {b : UInt8} (h : s[j]? = some b) : s.get! j = b:=by
  by_cases hj : j < s.size
  · rw [getElem?_pos s j hj] at h
    injection h with h
    rw [← h];exact get_at s j hj
  rw [getElem?_neg s j hj] at h;cases h
theorem dec_span {s : ByteArray} {pos : Nat} (hp : pos < s.size) : (∃ b, s[pos]? = some b ∧ b.toNat < 128 ∧ (Utf8.decode s pos).1 = b.toNat ∧ (Utf8.decode s pos).2 = 1) ∨
    (128 ≤ (Utf8.decode s pos).1 ∧ 1 ≤ (Utf8.decode s pos).2 ∧ pos + (Utf8.decode s pos).2 ≤ s.size ∧ ∀ j b,pos ≤ j → j < pos + (Utf8.decode s pos).2 → s[j]? = some b → 128 ≤ b.toNat):=by
  by_cases ha : (s[pos]'hp).toNat < 128
  · exact .inl ⟨_,getElem?_pos s pos hp,ha,by rw [decode_ascii s pos hp ha],by rw [decode_ascii s pos hp ha]⟩
  have hh:=decode_high s pos hp (by omega);refine .inr ⟨hh.1,hh.2,?_⟩
  have h0 : ∀ b,s[pos]? = some b → 128 ≤ b.toNat:=fun b hb=>by
    rw [getElem?_pos s pos hp] at hb
    injection hb with hb
    rw [← hb]; omega
  have key : ∀ k,(∀ i,1 ≤ i → i < k → pos + i < s.size ∧ (s.get! (pos + i)).toNat / 64 = 2) → pos + k ≤ s.size ∨ k = 0 ∨ k = 1 → ∀ j b,pos ≤ j → j < pos + k → s[j]? = some b → 128 ≤ b.toNat:=by
    intro k hk _ j b h1 h2 hb
    by_cases e : j = pos
    · subst e
      exact h0 b hb
    have:=(hk (j - pos) (by omega) (by omega)).2;rw [show pos + (j - pos) = j by omega,get_some hb] at this;omega
  have sz : ∀ k,1 ≤ k → (∀ i,1 ≤ i → i < k → pos + i < s.size ∧ (s.get! (pos + i)).toNat / 64 = 2) → pos + k ≤ s.size:=by
    intro k h1 hk
    by_cases e : k = 1
    · omega
    have:=(hk (k - 1) (by omega) (by omega)).1;omega
  suffices hs : ∀ i,1 ≤ i → i < (Utf8.decode s pos).2 → pos + i < s.size ∧ (s.get! (pos + i)).toNat / 64 = 2 from ⟨sz _ hh.2 hs,key _ hs (.inl (sz _ hh.2 hs))⟩
  have hn : ¬ (s[pos]'hp).toNat < 128:=ha;simp only [Utf8.decode,get_at s pos hp,hn,if_false];intro i h1
  repeat' split
  all_goals intro h2
  all_goals simp only [Bool.and_eq_true,decide_eq_true_eq,beq_iff_eq] at *
  all_goals have hi : i = 1 ∨ i = 2 ∨ i = 3:=by omega
  all_goals rcases hi with rfl | rfl | rfl
  all_goals first
    | (exfalso; omega)
    | exact ⟨by omega,by omega⟩
theorem wild_hi {b : UInt8} (h : 128 ≤ b.toNat) : wildU b = false:=by unfold wildU wildI; simp; omega
theorem skip_to {s : ByteArray} {pos : Nat} (hp : pos < s.size) : pos + (Utf8.decode s pos).2 ≤ s.size ∧ 1 ≤ (Utf8.decode s pos).2:=by
  rcases dec_span hp with ⟨b,_,_,_,h⟩ | ⟨_,h1,h2,_⟩ <;> omega
theorem skip_next {s : ByteArray} {pos : Nat} (hp : pos < s.size) (hq : ∀ j b,j < pos → s[j]? = some b → wildU b = false) (h : wildI (((Utf8.decode s pos).1 : Nat) : Int) = false) : ∀ j b,j < pos + (Utf8.decode s pos).2 → s[j]? = some b → wildU b = false:=by
  intro j b hj hb
  by_cases e : j < pos
  · exact hq j b e hb
  rcases dec_span hp with ⟨b',hb',_,h1,h2⟩ | ⟨_,_,_,h3⟩
  · obtain rfl : j = pos := by omega
    rw [hb] at hb';cases hb';rw [h1] at h;exact h
  exact wild_hi (h3 j b (by omega) hj hb)
theorem skip_yes {s : ByteArray} {pos : Nat} (hp : pos < s.size) (h : wildI (((Utf8.decode s pos).1 : Nat) : Int) = true) : anyW s = true:=by
  rcases dec_span hp with ⟨b,hb,_,h1,h2⟩ | ⟨h1,_⟩
  · rw [h1] at h
    unfold anyW;rw [ByteArray.toList_eq];rw [byte_at,← Array.getElem?_toList] at hb;exact List.any_eq_true.2 ⟨b,List.mem_of_getElem? hb,h⟩
  unfold wildI at h;simp at h;omega
theorem skip_no {s : ByteArray} {pos : Nat} (hp : ¬ pos < s.size) (hq : ∀ j b,j < pos → s[j]? = some b → wildU b = false) : anyW s = false:=by
  unfold anyW;rw [ByteArray.toList_eq];rw [List.any_eq_false];intro b hb;obtain ⟨j,hj,he⟩:=List.getElem_of_mem hb;have:=hq j b (by simp at hj; have : s.data.size = s.size:=rfl; omega) (by rw [byte_at,← Array.getElem?_toList,List.getElem?_eq_getElem hj,he]);simp [this]
def IdxPost (s : ByteArray) (w : World) (e : Ending) (w' : World) : Prop:=Kept [] w w' ∧ ∃ i,e = .returned (.int .i64 i) ∧ decide (0 ≤ i) = anyW s
theorem idxF_any (s : ByteArray) (w : World) : Calls Tryz.prog 127 #[.string s,.func (.func 60) #[] #[],.bool true] w (IdxPost s w):=by
 have HK : Kept [] w w:=Kept.refl [] w;refine C.enter Tryz.func127 rfl Tryz.ntmps127 rfl ?_;intro a1 f;have f : Fr 21 a1 [(0,.string s),(1,.func (.func 60) #[] #[]),(2,.bool true)]:=f;refine C.sk fun _ k=>?_;refine L.ag f fun _ f=>?_;refine wn k ?_;have f:=f.pk [0,1,2,6];refine wp_seq_k fun _ k=>C.sk fun _ k1=>?_;refine L.mv f fun _ f=>?_;refine L.range f wantedN (by decide) U9 rfl fun _ w1 g0 Ig0 q log0 f=>?_;have szw1:=q.size;have ltg0:=Ig0.lt;replace HK:=HK.z q;clear q;refine wn k1 ?_;have f:=f.pk [1,2,6,10];refine wp_block ?_;refine C.loop (fun gk a W=>∃ pos : Nat,pos ≤ s.size ∧ s.size ≤ pos + gk ∧ (∀ j b,j < pos → s[j]? = some b → wildU b = false) ∧ Kept [] w W ∧ Iter W g0 s pos ∧ Fr 21 a [(1,.func (.func 60) #[] #[]),(2,.bool true),(10,.pointer (some ⟨g0,0,none⟩))]) (s.size) ?_ ?_
 ·exact ⟨0,by omega,by omega,fun j b h=>by omega,HK,Ig0,f.sub (sx (sx (sx sn)))⟩
 intro gk4 _ w2 hI KL3 hKL3;obtain ⟨pos,hpl,hk,hq,HK,Ig0,f28⟩:=hI
 try clear f
 refine C.sk fun _ k1=>?_;refine L.next f28 wantedN (by decide) rfl Ig0 fun _ w3 IN3 ki3 f=>?_
 have szw3:=ki3.size;replace HK:=HK.trans ki3 (by intro x hx hlt; simp at hx; subst hx; (exfalso; omega));replace Ig0:=IN3;clear ki3;refine L.va f (E.extract f rfl nextV_ok) fun _ f=>?_;refine wn k1 ?_;have f:=f.pk [1,2,10,11,12];refine wp_seq_k fun _ k1=>?_;refine f.splitD 12 rfl (fun h0 f=>?_) (fun h0 f=>?_)
 ·have hp : pos < s.size:=by simpa using h0
  refine C.condT f rfl ?_;refine wp_skip (k1 _ _ ?_);have f28:=f.pk [1,2,10,11,12];refine wp_block ?_;refine C.sk fun _ k1=>?_;refine L.va f28 (E.extract f28 rfl (nextV_pos hp)) fun _ f28=>?_;refine L.va f28 (E.extract f28 rfl (nextV_rune hp)) fun _ f28=>?_;refine L.ag f28 fun _ f28=>?_;refine L.ag f28 fun _ f28=>?_;have f28:=f28.pk [1,2,7,8,10,11,12,13,14];refine wn k1 (C.sk fun _ k1=>?_);refine L.mv f28 fun _ f28=>?_;refine L.mv f28 fun _ f28=>?_;refine L.cl f28 (cv1_0 f28 rfl Tryz.call60 rfl) (wild_any _ _) ?_;rintro e w3x ⟨rfl,rfl⟩;refine ⟨_,rfl,fun _ f28=>?_⟩;refine L.mv f28 fun _ f28=>?_;refine L.va f28 (E.eqlB f28 U4 rfl rfl) fun _ f28=>?_;refine wn k1 ?_;have f28:=f28.pk [1,2,7,8,10,11,12,13,14,15,16,17,18,19];refine f28.splitD 19 rfl (fun h1 f28=>?_) (fun h1 f28=>?_)
  ·have h19:=h1;refine C.condT f28 rfl ?_;refine C.sk fun _ k1=>?_;refine L.mv f28 fun _ f29=>?_;refine L.ag f29 fun _ f29=>?_;have f29:=f29.pk [1,2,6,7,8,10,11,12,13,14,15,16,17,18,19,20];refine wn k1 (wp_ret ?_); (try simp only [xt,xb]); refine C.ret f29 rfl rfl ?_;exact ⟨HK,_,rfl,by rw [skip_yes hp h19]; simp⟩
  have h19:=h1;refine C.condF f28 rfl ?_;refine wp_skip (hKL3 _ _ (gk4 - 1) ?_ ?_)
  ·omega
  exact ⟨pos + (Utf8.decode s pos).2,(skip_to hp).1,by have:=(skip_to hp).2; omega,skip_next hp hq (by simpa using h19),HK,by rw [nextP_at hp] at Ig0; exact Ig0,f28.sub (sx (sx (sx sn)))⟩
 have hp : ¬ pos < s.size:=by simpa using h0
 refine C.condF f rfl ?_;refine wp_exit (k _ _ ?_);have f:=f.sub sn;refine C.sk fun _ k=>?_;refine L.ag f fun _ f=>?_;have f:=f.pk [6];refine wn k (wp_ret ?_); (try simp only [xt,xb]); refine C.ret f rfl rfl ?_;exact ⟨HK,_,rfl,by rw [skip_no hp hq]; rfl⟩
theorem idx_any (s : ByteArray) (w : World) : Calls Tryz.prog 121 #[.string s,.func (.func 60) #[] #[]] w (IdxPost s w):=by
 have HK : Kept [] w w:=Kept.refl [] w;refine C.enter Tryz.func121 rfl Tryz.ntmps121 rfl ?_;intro a f;have f : Fr 8 a [(0,.string s),(1,.func (.func 60) #[] #[])]:=f;refine C.sk fun _ k=>?_;refine L.ag f fun _ f=>?_;have f:=f.pk [0,1,4];refine wn k (C.sk fun _ k=>?_);refine L.mv f fun _ f=>?_;refine L.mv f fun _ f=>?_;refine L.cl f (rc3 f Tryz.call127) (idxF_any s _) ?_;rintro e w1 ⟨q,i,rfl,hi⟩;refine ⟨_,rfl,fun _ f=>?_⟩;have szw1:=q.size;replace HK:=HK.z q;clear q;refine L.ag f fun _ f=>?_;have f:=f.pk [4];refine wn k (wp_ret ?_); (try simp only [xt,xb]); refine C.ret f rfl rfl ?_;exact ⟨HK,i,rfl,hi⟩
theorem cont_any (s : ByteArray) (w : World) : Calls Tryz.prog 109 #[.string s,.func (.func 60) #[] #[]] w (fun e w'=>Kept [] w w' ∧ e = .returned (.bool (anyW s))):=by
 have HK : Kept [] w w:=Kept.refl [] w;refine C.enter Tryz.func109 rfl Tryz.ntmps109 rfl ?_;intro a f;have f : Fr 9 a [(0,.string s),(1,.func (.func 60) #[] #[])]:=f;refine C.sk fun _ k=>?_;refine L.ag f fun _ f=>?_;have f:=f.pk [0,1,4];refine wn k (C.sk fun _ k=>?_);refine L.mv f fun _ f=>?_;refine L.mv f fun _ f=>?_;refine L.cl f (rc2 f Tryz.call121) (idx_any s _) ?_;rintro e w1 ⟨q,i,rfl,hi⟩;refine ⟨_,rfl,fun _ f=>?_⟩;have szw1:=q.size;replace HK:=HK.z q;clear q;refine L.va f (E.geq f rfl rfl) fun _ f=>?_;refine L.ag f fun _ f=>?_;have f:=f.pk [4];refine wn k (wp_ret ?_); (try simp only [xt,xb]); refine C.ret f rfl rfl ?_;exact ⟨HK,by rw [← hi]⟩
end Go.Proofs.YtekmhcdgmgbheaaGreatDoor
namespace Go.Hub
open Go.Lib
def badL (l : List UInt8) : Bool:=(decodeL l).1 == 65533 && (decodeL l).2 == 1
def chkf : Nat → Nat → List UInt8 → Int
  | 0,_,_=>-1
  | f + 1,i,l=>if l = [] then -1 else if badL l || (decodeL l).1 == 0 then (i : Int) else chkf f (i + (decodeL l).2) (l.drop (decodeL l).2)
def chk (l : List UInt8) : Int:=chkf l.length 0 l
theorem chkf_nil (f i : Nat) : chkf f i [] = -1:=by cases f <;> simp [chkf]
end Go.Hub
namespace Go.Hub
open Go.Lib Go.RowKit
def ac (l : List UInt8) (m : Nat) : Nat → Nat
  | 0=>0
  | 1=>(l.getD 0 0).toNat % m
  | k + 2=>ac l m (k + 1) * 64 + (l.getD (k + 1) 0).toNat % 64
theorem ac_one (l : List UInt8) (m : Nat) : ac l m 1 = (l.getD 0 0).toNat % m:=rfl
theorem ac_succ (l : List UInt8) (m k : Nat) (h : 1 ≤ k) : ac l m (k + 1) = ac l m k * 64 + (l.getD k 0).toNat % 64:=by
  obtain ⟨j,rfl⟩ : ∃ j,k = j + 1:=⟨k - 1,by omega⟩
  rfl
def Cls (b0 n m least : Nat) : Prop:=(192 ≤ b0 ∧ b0 < 224 ∧ n = 2 ∧ m = 32 ∧ least = 128) ∨ (224 ≤ b0 ∧ b0 < 240 ∧ n = 3 ∧ m = 16 ∧ least = 2048) ∨ (240 ≤ b0 ∧ b0 < 248 ∧ n = 4 ∧ m = 8 ∧ least = 65536)
theorem ac_bd {l : List UInt8} {n m least : Nat} (h : Cls (l.getD 0 0).toNat n m least) (k : Nat) (h1 : 1 ≤ k) (h2 : k ≤ n) : ac l m k ≤ 2097151 ∧ (k < n → ac l m k ≤ 32767):=by
  have e1 : ac l m 1 = (l.getD 0 0).toNat % m:=rfl;have e2 : ac l m 2 = ac l m 1 * 64 + (l.getD 1 0).toNat % 64:=rfl;have e3 : ac l m 3 = ac l m 2 * 64 + (l.getD 2 0).toNat % 64:=rfl;have e4 : ac l m 4 = ac l m 3 * 64 + (l.getD 3 0).toNat % 64:=rfl
  rcases h with ⟨_,_,rfl,rfl,_⟩ | ⟨_,_,rfl,rfl,_⟩ | ⟨_,_,rfl,rfl,_⟩
  · rcases (show k = 1 ∨ k = 2 by omega) with rfl | rfl <;> omega
  · rcases (show k = 1 ∨ k = 2 ∨ k = 3 by omega) with rfl | rfl | rfl <;> omega
  rcases (show k = 1 ∨ k = 2 ∨ k = 3 ∨ k = 4 by omega) with rfl | rfl | rfl | rfl <;> omega
def stepV (l : List UInt8) : Value:=.tuple #[.int .i32 ((if badL l then 0 else (decodeL l).1 : Nat) : Int),.int .i64 ((decodeL l).2 : Int),.bool (!badL l)]
theorem stepV_bad {l : List UInt8} (h : decodeL l = (65533,1)) : stepV l = .tuple #[.int .i32 0,.int .i64 1,.bool false]:=by
  unfold stepV badL; rw [h]; rfl
theorem stepV_ok {l : List UInt8} {r n : Nat} (h : decodeL l = (r,n)) (hn : ¬ (r = 65533 ∧ n = 1)) : stepV l = .tuple #[.int .i32 r,.int .i64 n,.bool true]:=by
  have hb : badL l = false:=by
    unfold badL;rw [h]
    simp
    intro h1 h2;exact hn ⟨h1,h2⟩
  unfold stepV;rw [hb,h]
  rfl
theorem dec_ascii {l : List UInt8} (h : (l.getD 0 0).toNat < 128) : decodeL l = ((l.getD 0 0).toNat,1):=by
  rw [decodeL_N]; unfold decodeN; rw [if_pos h]
theorem dec_none {l : List UInt8} (h1 : 128 ≤ (l.getD 0 0).toNat) (h2 : (l.getD 0 0).toNat < 192 ∨ 248 ≤ (l.getD 0 0).toNat) : decodeL l = (65533,1):=by
  have:=(l.getD 0 0).toNat_lt;rw [decodeL_N]; unfold decodeN;rw [if_neg (by omega),if_neg (by omega),if_neg (by omega),if_neg (by omega)]
theorem dec_short {l : List UInt8} {n m least : Nat} (h : Cls (l.getD 0 0).toNat n m least) (hl : l.length < n) : decodeL l = (65533,1):=by
  rw [decodeL_N]; unfold decodeN
  rcases h with ⟨_,_,rfl,rfl,_⟩ | ⟨_,_,rfl,rfl,_⟩ | ⟨_,_,rfl,rfl,_⟩
  · rw [if_neg (by omega),if_neg (by omega),if_neg (by omega),if_neg (by omega)]
  · rw [if_neg (by omega),if_neg (by omega),if_neg (by omega),if_neg (by omega)]
  rw [if_neg (by omega),if_neg (by omega),if_neg (by omega),if_neg (by omega)]
theorem dec_broken {l : List UInt8} {n m least k : Nat} (h : Cls (l.getD 0 0).toNat n m least) (h1 : 1 ≤ k) (h2 : k < n) (hb : (l.getD k 0).toNat / 64 ≠ 2) : decodeL l = (65533,1):=by
  rw [decodeL_N]; unfold decodeN
  rcases h with ⟨_,_,rfl,rfl,_⟩ | ⟨_,_,rfl,rfl,_⟩ | ⟨_,_,rfl,rfl,_⟩
  · rcases (show k = 1 by omega) with rfl
    rw [if_neg (by omega),if_neg (by omega),if_neg (by omega),if_neg (by omega)]
  · rcases (show k = 1 ∨ k = 2 by omega) with rfl | rfl <;> rw [if_neg (by omega),if_neg (by omega),if_neg (by omega),if_neg (by omega)]
  rcases (show k = 1 ∨ k = 2 ∨ k = 3 by omega) with rfl | rfl | rfl <;> rw [if_neg (by omega),if_neg (by omega),if_neg (by omega),if_neg (by omega)]
theorem dec_whole {l : List UInt8} {n m least : Nat} (h : Cls (l.getD 0 0).toNat n m least) (hl : n ≤ l.length) (hc : ∀ k, 1 ≤ k → k < n → (l.getD k 0).toNat / 64 = 2) :
    decodeL l = if least ≤ ac l m n ∧ ac l m n ≤ 1114111 ∧ ¬ (55296 ≤ ac l m n ∧ ac l m n < 57344) then (ac l m n,n) else (65533,1):=by
  have e1 : ac l m 1 = (l.getD 0 0).toNat % m:=rfl;have e2 : ac l m 2 = ac l m 1 * 64 + (l.getD 1 0).toNat % 64:=rfl;have e3 : ac l m 3 = ac l m 2 * 64 + (l.getD 2 0).toNat % 64:=rfl;have e4 : ac l m 4 = ac l m 3 * 64 + (l.getD 3 0).toNat % 64:=rfl;have c1:=hc 1 (by omega);have c2:=hc 2 (by omega);have c3:=hc 3 (by omega);rw [decodeL_N]; unfold decodeN
  rcases h with ⟨_,_,rfl,rfl,rfl⟩ | ⟨_,_,rfl,rfl,rfl⟩ | ⟨_,_,rfl,rfl,rfl⟩
  · have c1 := c1 (by omega)
    rw [if_neg (by omega),if_pos (by omega)]
    split
    · rw [if_pos (by omega)]; exact Prod.ext (by dsimp only; omega) rfl
    rw [if_neg (by omega)]
  · have c1 := c1 (by omega)
    have c2:=c2 (by omega);rw [if_neg (by omega),if_neg (by omega),if_pos (by omega)]
    split
    · rw [if_pos (by omega)]; exact Prod.ext (by dsimp only; omega) rfl
    rw [if_neg (by omega)]
  have c1:=c1 (by omega);have c2:=c2 (by omega);have c3:=c3 (by omega);rw [if_neg (by omega),if_neg (by omega),if_neg (by omega),if_pos (by omega)]
  split
  · rw [if_pos (by omega)]; exact Prod.ext (by dsimp only; omega) rfl
  rw [if_neg (by omega)]
theorem u8_m5 : ∀ x : Fin 256,bits .and .u8 (x.val : Int) 31 = ((x.val % 32 : Nat) : Int):=by decide +kernel
theorem u8_m4 : ∀ x : Fin 256,bits .and .u8 (x.val : Int) 15 = ((x.val % 16 : Nat) : Int):=by decide +kernel
theorem u8_m3 : ∀ x : Fin 256,bits .and .u8 (x.val : Int) 7 = ((x.val % 8 : Nat) : Int):=by decide +kernel
theorem u8_m6 : ∀ x : Fin 256,bits .and .u8 (x.val : Int) 63 = ((x.val % 64 : Nat) : Int):=by decide +kernel
theorem u8_hi : ∀ x : Fin 256,bits .and .u8 (x.val : Int) 192 = ((x.val / 64 * 64 : Nat) : Int):=by decide +kernel
theorem wraps_i32 (n : Int) (h0 : 0 ≤ n) (h1 : n < 2 ^ 31) : IntKind.i32.wrap n = n:=by rw [IntKind.wrap_i32]; omega
theorem i32_or (i : Nat) (a b : Int) (ha : 0 ≤ a) (ha1 : a < 2 ^ i) (hb : 0 ≤ b) (hb1 : b % 2 ^ i = 0) (hb2 : b < 2 ^ 30) (hi : a < 2 ^ 30) : bits .or .i32 b a = b + a:=
  bits_join .i32 31 (by decide) wraps_i32 i b a hb hb1 (by omega) ha ha1 (by omega)
end Go.Hub
namespace Go.Proofs.YtekmhcdgmgbheaaGreatDoor
open Go.RowKit Go.Hub Go.Lib
theorem getD_some {l : List UInt8} {k : Nat} (h : k < l.length) : l[k]? = some (l.getD k 0):=by simp [List.getD,h]
section
variable (b off cap : Nat) (l : List UInt8) (w : World) (hne : 0 < l.length) (hbig : l.length ≤ maxLen)
  (hc : ∀ j,j < l.length → w.cell? ⟨b,off + j,none⟩ = some (.int .u8 ((l.getD j 0).toNat : Int)))
include hne hc hbig in
theorem step_ascii (h : (l.getD 0 0).toNat < 128) : Calls Tryz.prog 120 #[.slice (some ⟨b,off,none⟩) l.length cap] w fun e w'=>e = .returned (stepV l) ∧ w' = w:=by
  have h0:=hc 0 hne;rw [Nat.add_zero] at h0;have hlt:=(l.getD 0 0).toNat_lt;have hl2 : (0 : Int) < (l.length : Int):=by omega
  have HS:=hid (stepV_ok (dec_ascii h) (by omega));obtain ⟨x,hx⟩ : ∃ x,x = (l.getD 0 0).toNat:=⟨_,rfl⟩;rw [← hx] at h0 h hlt HS;have hi : (x : Int) < 128:=by omega
  clear hc hx
  go_enter Tryz.func120,Tryz.ntmps120
  go_wp2
  go_ret3
  exact ⟨by rw [HS.out]; rfl,rfl⟩
include hne hc hbig in
theorem step_none (h1 : 128 ≤ (l.getD 0 0).toNat) (h2 : (l.getD 0 0).toNat < 192 ∨ 248 ≤ (l.getD 0 0).toNat) : Calls Tryz.prog 120 #[.slice (some ⟨b,off,none⟩) l.length cap] w fun e w'=>e = .returned (stepV l) ∧ w' = w:=by
  have h0:=hc 0 hne;rw [Nat.add_zero] at h0;have hlt:=(l.getD 0 0).toNat_lt;have hl2 : (0 : Int) < (l.length : Int):=by omega
  have HS:=hid (stepV_bad (dec_none h1 h2));obtain ⟨x,hx⟩ : ∃ x,x = (l.getD 0 0).toNat:=⟨_,rfl⟩;rw [← hx] at h0 h1 h2 hlt;clear hc hx
  rcases h2 with h2 | h2
  · have hi : ¬ (x : Int) < 128 := by omega
    have hi2 : (x : Int) < 192:=by omega
    go_enter Tryz.func120,Tryz.ntmps120
    go_wp2
    go_ret3
    exact ⟨by rw [HS.out]; rfl,rfl⟩
  have hi : ¬ (x : Int) < 128:=by omega
  have hi2 : (248 : Int) ≤ x:=by omega
  go_enter Tryz.func120,Tryz.ntmps120
  go_wp2
  go_ret3
  exact ⟨by rw [HS.out]; rfl,rfl⟩
include hne hc hbig in
theorem step_short (n m least : Nat) (h : Cls (l.getD 0 0).toNat n m least) (hl : l.length < n) : Calls Tryz.prog 120 #[.slice (some ⟨b,off,none⟩) l.length cap] w fun e w'=>e = .returned (stepV l) ∧ w' = w:=by
  have h0:=hc 0 hne;rw [Nat.add_zero] at h0;have hlt:=(l.getD 0 0).toNat_lt;have hl2 : (0 : Int) < (l.length : Int):=by omega
  have HS:=hid (stepV_bad (dec_short h hl));obtain ⟨x,hx⟩ : ∃ x,x = (l.getD 0 0).toNat:=⟨_,rfl⟩;rw [← hx] at h0 h hlt;have hm5:=u8_m5 ⟨x,hlt⟩;have hm4:=u8_m4 ⟨x,hlt⟩;have hm3:=u8_m3 ⟨x,hlt⟩;clear hc hx
  rcases h with ⟨a1,a2,rfl,rfl,rfl⟩ | ⟨a1,a2,rfl,rfl,rfl⟩ | ⟨a1,a2,rfl,rfl,rfl⟩
  all_goals
    have hi : ¬ (x : Int) < 128:=by omega
    have hi2 : (192 : Int) ≤ x:=by omega
    have hi3 : (l.length : Int) < 4:=by omega
  · have hi4 : (x : Int) < 224 := by omega
    have hi5 : (l.length : Int) < 2:=by omega
    go_enter Tryz.func120,Tryz.ntmps120
    go_wp2
    go_ret3
    exact ⟨by rw [HS.out]; rfl,rfl⟩
  · have hi4 : (224 : Int) ≤ x := by omega
    have hi6 : (x : Int) < 240:=by omega
    have hi5 : (l.length : Int) < 3:=by omega
    go_enter Tryz.func120,Tryz.ntmps120
    go_wp2
    go_ret3
    exact ⟨by rw [HS.out]; rfl,rfl⟩
  have hi4 : (240 : Int) ≤ x:=by omega
  have hi6 : (x : Int) < 248:=by omega
  go_enter Tryz.func120,Tryz.ntmps120
  go_wp2
  go_ret3
  exact ⟨by rw [HS.out]; rfl,rfl⟩
end
end Go.Proofs.YtekmhcdgmgbheaaGreatDoor
namespace Go.Proofs.YtekmhcdgmgbheaaGreatDoor
open Go.RowKit Go.Hub Go.Lib
section
variable (b off cap : Nat) (l : List UInt8) (w : World) (hne : 0 < l.length) (hbig : l.length ≤ maxLen)
  (hc : ∀ j,j < l.length → w.cell? ⟨b,off + j,none⟩ = some (.int .u8 ((l.getD j 0).toNat : Int)))
include hne hc hbig in
theorem step_2 (ha : 192 ≤ (l.getD 0 0).toNat) (hb : (l.getD 0 0).toNat < 224) (hl : 2 ≤ l.length) : Calls Tryz.prog 120 #[.slice (some ⟨b,off,none⟩) l.length cap] w fun e w'=>e = .returned (stepV l) ∧ w' = w:=by
  have hcl : Cls (l.getD 0 0).toNat 2 32 128:=by unfold Cls; omega
  have h0:=hc 0 hne;rw [Nat.add_zero] at h0;have HC:=hid hc;have HB:=hid (fun k (h1 : 1 ≤ k) (h2 : k ≤ 2)=>ac_bd hcl k h1 h2);have HK:=hid hcl;have hlt:=(l.getD 0 0).toNat_lt;have hl2 : (0 : Int) < (l.length : Int):=by omega
  have H1:=hid (ac_one l 32);obtain ⟨x,hx⟩ : ∃ x,x = (l.getD 0 0).toNat:=⟨_,rfl⟩;rw [← hx] at h0 hlt H1 ha hb;have hm:=u8_m5 ⟨x,hlt⟩;unfold maxLen at hbig;clear hc hx hcl;have hi : ¬ (x : Int) < 128:=by omega
  have hi2 : (192 : Int) ≤ x:=by omega
  have hi4 : (x : Int) < 224:=by omega
  have hi5 : ¬ (l.length : Int) < 2:=by omega
  go_enter Tryz.func120,Tryz.ntmps120
  go_wp2
  clear hm
  go_loopg [8,9] 1 (fun g r i wr=>∃ k : Nat,1 ≤ k ∧ k + g = 2 ∧ i = .int .i64 k ∧ r = .int .i32 (ac l 32 k) ∧ (∀ j,1 ≤ j → j < k → (l.getD j 0).toNat / 64 = 2) ∧ w = wr)
  case atStart=>exact ⟨1,by omega,rfl,rfl,by rw [H1.out]; rfl,fun j h1 h2=>by omega,rfl⟩
  case round=>
    obtain ⟨k,hk1,hk2,rfl,rfl,hcont,rfl⟩:=hrel;have HCT:=hid hcont;have hbd:=HB.out k hk1 (by omega);obtain ⟨r,hr⟩ : ∃ r,r = ac l 32 k:=⟨_,rfl⟩;rw [← hr] at hbd ⊢;have HR:=hid hr;clear hcont hr
    by_cases hlt2 : k < 2
    · have hcell := HC.out k (by omega)
      have hk3 : (k : Int) < 2:=by omega
      have hk4 : (k : Int) < (l.length : Int):=by omega
      have hzl:=(l.getD k 0).toNat_lt;have hr3:=hbd.2 hlt2;obtain ⟨z,hz⟩ : ∃ z,z = (l.getD k 0).toNat:=⟨_,rfl⟩;rw [← hz] at hcell hzl;have HZ:=hid hz;have hmh:=u8_hi ⟨z,hzl⟩;have hml:=u8_m6 ⟨z,hzl⟩;simp only [] at hmh hml;have hor : bits .or .i32 ((r : Int) * 64) ((z % 64 : Nat) : Int) = (r : Int) * 64 + ((z % 64 : Nat) : Int):=i32_or 6 _ _ (by omega) (by omega) (by omega) (by omega) (by omega) (by omega);have HI:=hid hk2;clear hz hk2 hbd
      by_cases hz2 : z / 64 = 2
      · have hq : ((z / 64 * 64 : Nat) : Int) = 128 := by omega
        rw [hq] at hmh;have HQ:=hid hz2;clear hz2 hq
        go_wp2
        go_roundg (gk - 1)
        case measure=>have:=HI.out; omega
        case rel=>
          refine ⟨k + 1,by omega,by have:=HI.out; omega,by go_num,?_,fun j h1 h2=>?_,rfl⟩
          · rw [ac_succ l 32 k hk1, ← HR.out, ← HZ.out]
            congr 1
          rcases Nat.lt_or_ge j k with h | h
          · exact HCT.out j h1 h
          obtain rfl : j = k:=by omega
          rw [← HZ.out]; exact HQ.out
      have hq : (((z / 64 * 64 : Nat) : Int) != 128) = true:=by simp; omega
      have HS:=hid (stepV_bad (dec_broken HK.out hk1 hlt2 (by rw [← HZ.out]; exact hz2)));clear hz2
      go_wp2
      go_ret3
      exact ⟨by rw [HS.out]; rfl,rfl⟩
    obtain rfl : k = 2:=by omega
    have HD:=hid (dec_whole HK.out hl HCT.out);rw [← HR.out] at HD;clear hlt2 hk2;have hr9:=hbd.1;clear hbd
    by_cases hg : 128 ≤ r ∧ r ≤ 1114111 ∧ ¬ (55296 ≤ r ∧ r < 57344)
    · have HS := hid (stepV_ok (HD.out.trans (if_pos hg)) (by omega))
      obtain ⟨g1,g2,g3⟩:=hg;have i1 : ¬ (r : Int) < 128:=by omega
      have i2 : ¬ (1114111 : Int) < r:=by omega
      by_cases g4 : r < 55296
      · have i3 : ¬ (55296 : Int) ≤ r := by omega
        clear g1 g2 g3 g4
        go_wp2
        go_ret3
        exact ⟨by rw [HS.out]; rfl,rfl⟩
      have i3 : (55296 : Int) ≤ r:=by omega
      have i4 : ¬ (r : Int) < 57344:=by omega
      clear g1 g2 g3 g4
      go_wp2
      go_ret3
      exact ⟨by rw [HS.out]; rfl,rfl⟩
    have HS:=hid (stepV_bad (HD.out.trans (if_neg hg)))
    by_cases g1 : r < 128
    · have i1 : (r : Int) < 128 := by omega
      clear g1 hg
      go_wp2
      all_goals (go_ret3; exact ⟨by rw [HS.out]; rfl,rfl⟩)
    have i1 : ¬ (r : Int) < 128:=by omega
    by_cases g2 : r ≤ 1114111
    · have i2 : ¬ (1114111 : Int) < r := by omega
      have i3 : (55296 : Int) ≤ r:=by omega
      have i4 : (r : Int) < 57344:=by omega
      clear g1 hg g2
      go_wp2
      go_ret3
      exact ⟨by rw [HS.out]; rfl,rfl⟩
    have i2 : (1114111 : Int) < r:=by omega
    clear g1 hg g2
    go_wp2
    all_goals (go_ret3; exact ⟨by rw [HS.out]; rfl,rfl⟩)
include hne hc hbig in
theorem step_3 (ha : 224 ≤ (l.getD 0 0).toNat) (hb : (l.getD 0 0).toNat < 240) (hl : 3 ≤ l.length) : Calls Tryz.prog 120 #[.slice (some ⟨b,off,none⟩) l.length cap] w fun e w'=>e = .returned (stepV l) ∧ w' = w:=by
  have hcl : Cls (l.getD 0 0).toNat 3 16 2048:=by unfold Cls; omega
  have h0:=hc 0 hne;rw [Nat.add_zero] at h0;have HC:=hid hc;have HB:=hid (fun k (h1 : 1 ≤ k) (h2 : k ≤ 3)=>ac_bd hcl k h1 h2);have HK:=hid hcl;have hlt:=(l.getD 0 0).toNat_lt;have hl2 : (0 : Int) < (l.length : Int):=by omega
  have H1:=hid (ac_one l 16);obtain ⟨x,hx⟩ : ∃ x,x = (l.getD 0 0).toNat:=⟨_,rfl⟩;rw [← hx] at h0 hlt H1 ha hb;have hm:=u8_m4 ⟨x,hlt⟩;unfold maxLen at hbig;clear hc hx hcl;have hi : ¬ (x : Int) < 128:=by omega
  have hi2 : (224 : Int) ≤ x:=by omega
  have hi4 : (x : Int) < 240:=by omega
  have hi5 : ¬ (l.length : Int) < 3:=by omega
  go_enter Tryz.func120,Tryz.ntmps120
  go_wp2
  clear hm
  go_loopg [8,9] 2 (fun g r i wr=>∃ k : Nat,1 ≤ k ∧ k + g = 3 ∧ i = .int .i64 k ∧ r = .int .i32 (ac l 16 k) ∧ (∀ j,1 ≤ j → j < k → (l.getD j 0).toNat / 64 = 2) ∧ w = wr)
  case atStart=>exact ⟨1,by omega,rfl,rfl,by rw [H1.out]; rfl,fun j h1 h2=>by omega,rfl⟩
  case round=>
    obtain ⟨k,hk1,hk2,rfl,rfl,hcont,rfl⟩:=hrel;have HCT:=hid hcont;have hbd:=HB.out k hk1 (by omega);obtain ⟨r,hr⟩ : ∃ r,r = ac l 16 k:=⟨_,rfl⟩;rw [← hr] at hbd ⊢;have HR:=hid hr;clear hcont hr
    by_cases hlt2 : k < 3
    · have hcell := HC.out k (by omega)
      have hk3 : (k : Int) < 3:=by omega
      have hk4 : (k : Int) < (l.length : Int):=by omega
      have hzl:=(l.getD k 0).toNat_lt;have hr3:=hbd.2 hlt2;obtain ⟨z,hz⟩ : ∃ z,z = (l.getD k 0).toNat:=⟨_,rfl⟩;rw [← hz] at hcell hzl;have HZ:=hid hz;have hmh:=u8_hi ⟨z,hzl⟩;have hml:=u8_m6 ⟨z,hzl⟩;simp only [] at hmh hml;have hor : bits .or .i32 ((r : Int) * 64) ((z % 64 : Nat) : Int) = (r : Int) * 64 + ((z % 64 : Nat) : Int):=i32_or 6 _ _ (by omega) (by omega) (by omega) (by omega) (by omega) (by omega);have HI:=hid hk2;clear hz hk2 hbd
      by_cases hz2 : z / 64 = 2
      · have hq : ((z / 64 * 64 : Nat) : Int) = 128 := by omega
        rw [hq] at hmh;have HQ:=hid hz2;clear hz2 hq
        go_wp2
        go_roundg (gk - 1)
        case measure=>have:=HI.out; omega
        case rel=>
          refine ⟨k + 1,by omega,by have:=HI.out; omega,by go_num,?_,fun j h1 h2=>?_,rfl⟩
          · rw [ac_succ l 16 k hk1, ← HR.out, ← HZ.out]
            congr 1
          rcases Nat.lt_or_ge j k with h | h
          · exact HCT.out j h1 h
          obtain rfl : j = k:=by omega
          rw [← HZ.out]; exact HQ.out
      have hq : (((z / 64 * 64 : Nat) : Int) != 128) = true:=by simp; omega
      have HS:=hid (stepV_bad (dec_broken HK.out hk1 hlt2 (by rw [← HZ.out]; exact hz2)));clear hz2
      go_wp2
      go_ret3
      exact ⟨by rw [HS.out]; rfl,rfl⟩
    obtain rfl : k = 3:=by omega
    have HD:=hid (dec_whole HK.out hl HCT.out);rw [← HR.out] at HD;clear hlt2 hk2;have hr9:=hbd.1;clear hbd
    by_cases hg : 2048 ≤ r ∧ r ≤ 1114111 ∧ ¬ (55296 ≤ r ∧ r < 57344)
    · have HS := hid (stepV_ok (HD.out.trans (if_pos hg)) (by omega))
      obtain ⟨g1,g2,g3⟩:=hg;have i1 : ¬ (r : Int) < 2048:=by omega
      have i2 : ¬ (1114111 : Int) < r:=by omega
      by_cases g4 : r < 55296
      · have i3 : ¬ (55296 : Int) ≤ r := by omega
        clear g1 g2 g3 g4
        go_wp2
        go_ret3
        exact ⟨by rw [HS.out]; rfl,rfl⟩
      have i3 : (55296 : Int) ≤ r:=by omega
      have i4 : ¬ (r : Int) < 57344:=by omega
      clear g1 g2 g3 g4
      go_wp2
      go_ret3
      exact ⟨by rw [HS.out]; rfl,rfl⟩
    have HS:=hid (stepV_bad (HD.out.trans (if_neg hg)))
    by_cases g1 : r < 2048
    · have i1 : (r : Int) < 2048 := by omega
      clear g1 hg
      go_wp2
      all_goals (go_ret3; exact ⟨by rw [HS.out]; rfl,rfl⟩)
    have i1 : ¬ (r : Int) < 2048:=by omega
    by_cases g2 : r ≤ 1114111
    · have i2 : ¬ (1114111 : Int) < r := by omega
      have i3 : (55296 : Int) ≤ r:=by omega
      have i4 : (r : Int) < 57344:=by omega
      clear g1 hg g2
      go_wp2
      go_ret3
      exact ⟨by rw [HS.out]; rfl,rfl⟩
    have i2 : (1114111 : Int) < r:=by omega
    clear g1 hg g2
    go_wp2
    all_goals (go_ret3; exact ⟨by rw [HS.out]; rfl,rfl⟩)
include hne hc hbig in
theorem step_4 (ha : 240 ≤ (l.getD 0 0).toNat) (hb : (l.getD 0 0).toNat < 248) (hl : 4 ≤ l.length) : Calls Tryz.prog 120 #[.slice (some ⟨b,off,none⟩) l.length cap] w fun e w'=>e = .returned (stepV l) ∧ w' = w:=by
  have hcl : Cls (l.getD 0 0).toNat 4 8 65536:=by unfold Cls; omega
  have h0:=hc 0 hne;rw [Nat.add_zero] at h0;have HC:=hid hc;have HB:=hid (fun k (h1 : 1 ≤ k) (h2 : k ≤ 4)=>ac_bd hcl k h1 h2);have HK:=hid hcl;have hlt:=(l.getD 0 0).toNat_lt;have hl2 : (0 : Int) < (l.length : Int):=by omega
  have H1:=hid (ac_one l 8);obtain ⟨x,hx⟩ : ∃ x,x = (l.getD 0 0).toNat:=⟨_,rfl⟩;rw [← hx] at h0 hlt H1 ha hb;have hm:=u8_m3 ⟨x,hlt⟩;unfold maxLen at hbig;clear hc hx hcl;have hi : ¬ (x : Int) < 128:=by omega
  have hi2 : (240 : Int) ≤ x:=by omega
  have hi4 : (x : Int) < 248:=by omega
  have hi5 : ¬ (l.length : Int) < 4:=by omega
  go_enter Tryz.func120,Tryz.ntmps120
  go_wp2
  clear hm
  go_loopg [8,9] 3 (fun g r i wr=>∃ k : Nat,1 ≤ k ∧ k + g = 4 ∧ i = .int .i64 k ∧ r = .int .i32 (ac l 8 k) ∧ (∀ j,1 ≤ j → j < k → (l.getD j 0).toNat / 64 = 2) ∧ w = wr)
  case atStart=>exact ⟨1,by omega,rfl,rfl,by rw [H1.out]; rfl,fun j h1 h2=>by omega,rfl⟩
  case round=>
    obtain ⟨k,hk1,hk2,rfl,rfl,hcont,rfl⟩:=hrel;have HCT:=hid hcont;have hbd:=HB.out k hk1 (by omega);obtain ⟨r,hr⟩ : ∃ r,r = ac l 8 k:=⟨_,rfl⟩;rw [← hr] at hbd ⊢;have HR:=hid hr;clear hcont hr
    by_cases hlt2 : k < 4
    · have hcell := HC.out k (by omega)
      have hk3 : (k : Int) < 4:=by omega
      have hk4 : (k : Int) < (l.length : Int):=by omega
      have hzl:=(l.getD k 0).toNat_lt;have hr3:=hbd.2 hlt2;obtain ⟨z,hz⟩ : ∃ z,z = (l.getD k 0).toNat:=⟨_,rfl⟩;rw [← hz] at hcell hzl;have HZ:=hid hz;have hmh:=u8_hi ⟨z,hzl⟩;have hml:=u8_m6 ⟨z,hzl⟩;simp only [] at hmh hml;have hor : bits .or .i32 ((r : Int) * 64) ((z % 64 : Nat) : Int) = (r : Int) * 64 + ((z % 64 : Nat) : Int):=i32_or 6 _ _ (by omega) (by omega) (by omega) (by omega) (by omega) (by omega);have HI:=hid hk2;clear hz hk2 hbd
      by_cases hz2 : z / 64 = 2
      · have hq : ((z / 64 * 64 : Nat) : Int) = 128 := by omega
        rw [hq] at hmh;have HQ:=hid hz2;clear hz2 hq
        go_wp2
        go_roundg (gk - 1)
        case measure=>have:=HI.out; omega
        case rel=>
          refine ⟨k + 1,by omega,by have:=HI.out; omega,by go_num,?_,fun j h1 h2=>?_,rfl⟩
          · rw [ac_succ l 8 k hk1, ← HR.out, ← HZ.out]
            congr 1
          rcases Nat.lt_or_ge j k with h | h
          · exact HCT.out j h1 h
          obtain rfl : j = k:=by omega
          rw [← HZ.out]; exact HQ.out
      have hq : (((z / 64 * 64 : Nat) : Int) != 128) = true:=by simp; omega
      have HS:=hid (stepV_bad (dec_broken HK.out hk1 hlt2 (by rw [← HZ.out]; exact hz2)));clear hz2
      go_wp2
      go_ret3
      exact ⟨by rw [HS.out]; rfl,rfl⟩
    obtain rfl : k = 4:=by omega
    have HD:=hid (dec_whole HK.out hl HCT.out);rw [← HR.out] at HD;clear hlt2 hk2;have hr9:=hbd.1;clear hbd
    by_cases hg : 65536 ≤ r ∧ r ≤ 1114111 ∧ ¬ (55296 ≤ r ∧ r < 57344)
    · have HS := hid (stepV_ok (HD.out.trans (if_pos hg)) (by omega))
      obtain ⟨g1,g2,g3⟩:=hg;have i1 : ¬ (r : Int) < 65536:=by omega
      have i2 : ¬ (1114111 : Int) < r:=by omega
      by_cases g4 : r < 55296
      · have i3 : ¬ (55296 : Int) ≤ r := by omega
        clear g1 g2 g3 g4
        go_wp2
        go_ret3
        exact ⟨by rw [HS.out]; rfl,rfl⟩
      have i3 : (55296 : Int) ≤ r:=by omega
      have i4 : ¬ (r : Int) < 57344:=by omega
      clear g1 g2 g3 g4
      go_wp2
      go_ret3
      exact ⟨by rw [HS.out]; rfl,rfl⟩
    have HS:=hid (stepV_bad (HD.out.trans (if_neg hg)))
    by_cases g1 : r < 65536
    · have i1 : (r : Int) < 65536 := by omega
      clear g1 hg
      go_wp2
      all_goals (go_ret3; exact ⟨by rw [HS.out]; rfl,rfl⟩)
    have i1 : ¬ (r : Int) < 65536:=by omega
    by_cases g2 : r ≤ 1114111
    · have i2 : ¬ (1114111 : Int) < r := by omega
      have i3 : (55296 : Int) ≤ r:=by omega
      have i4 : (r : Int) < 57344:=by omega
      clear g1 hg g2
      go_wp2
      go_ret3
      exact ⟨by rw [HS.out]; rfl,rfl⟩
    have i2 : (1114111 : Int) < r:=by omega
    clear g1 hg g2
    go_wp2
    all_goals (go_ret3; exact ⟨by rw [HS.out]; rfl,rfl⟩)
include hne hc hbig in
theorem step_any : Calls Tryz.prog 120 #[.slice (some ⟨b,off,none⟩) l.length cap] w fun e w'=>e = .returned (stepV l) ∧ w' = w:=by
  by_cases h1 : (l.getD 0 0).toNat < 128
  · exact step_ascii b off cap l w hne hbig hc h1
  by_cases h2 : (l.getD 0 0).toNat < 192
  · exact step_none b off cap l w hne hbig hc (by omega) (.inl h2)
  by_cases h3 : 248 ≤ (l.getD 0 0).toNat
  · exact step_none b off cap l w hne hbig hc (by omega) (.inr h3)
  by_cases h4 : (l.getD 0 0).toNat < 224
  · by_cases hl : l.length < 2
    · exact step_short b off cap l w hne hbig hc 2 32 128 (by unfold Cls; omega) hl
    exact step_2 b off cap l w hne hbig hc (by omega) h4 (by omega)
  by_cases h5 : (l.getD 0 0).toNat < 240
  · by_cases hl : l.length < 3
    · exact step_short b off cap l w hne hbig hc 3 16 2048 (by unfold Cls; omega) hl
    exact step_3 b off cap l w hne hbig hc (by omega) h5 (by omega)
  by_cases hl : l.length < 4
  · exact step_short b off cap l w hne hbig hc 4 8 65536 (by unfold Cls; omega) hl
  exact step_4 b off cap l w hne hbig hc (by omega) (by omega) (by omega)
end
end Go.Proofs.YtekmhcdgmgbheaaGreatDoor
namespace Go.Proofs.YtekmhcdgmgbheaaGreatDoor
open Go.Shelf
def u8ren : Ren:=⟨fun | 32=>116 | 49=>124 | n=>n,fun | 25=>124 | 30=>25 | 33=>132 | 66=>145 | 68=>147 | 69=>148 | n=>n,fun | 2=>0 | 3=>1 | n=>n⟩
theorem u8lays : Lays7.n32 Tryz.prog u8ren := {
  mixed:=by kernel_rfl
  f32:=by kernel_rfl
  f49:=by kernel_rfl
  t0:=by kernel_rfl
  a0:=fun _=>by kernel_rfl
  z0:=fun _=>by kernel_rfl
  v0:=fun _=>by kernel_rfl
  i0:=by kernel_rfl
  t3:=by kernel_rfl
  a3:=fun _=>by kernel_rfl
  z3:=fun _=>by kernel_rfl
  v3:=fun _=>by kernel_rfl
  i3:=by kernel_rfl
  t4:=by kernel_rfl
  a4:=fun _=>by kernel_rfl
  z4:=fun _=>by kernel_rfl
  v4:=fun _=>by kernel_rfl
  i4:=by kernel_rfl
  t5:=by kernel_rfl
  a5:=fun _=>by kernel_rfl
  z5:=fun _=>by kernel_rfl
  v5:=fun _=>by kernel_rfl
  i5:=by kernel_rfl
  t21:=by kernel_rfl
  a21:=fun _=>by kernel_rfl
  z21:=fun _=>by kernel_rfl
  v21:=fun _=>by kernel_rfl
  i21:=by kernel_rfl
  t25:=by kernel_rfl
  a25:=fun _=>by kernel_rfl
  z25:=fun _=>by kernel_rfl
  v25:=fun _=>by kernel_rfl
  i25:=by kernel_rfl
  t30:=by kernel_rfl
  a30:=fun _=>by kernel_rfl
  z30:=fun _=>by kernel_rfl
  v30:=fun _=>by kernel_rfl
  i30:=by kernel_rfl
  t33:=by kernel_rfl
  a33:=fun _=>by kernel_rfl
  z33:=fun _=>by kernel_rfl
  v33:=fun _=>by kernel_rfl
  i33:=by kernel_rfl
  t66:=by kernel_rfl
  a66:=fun _=>by kernel_rfl
  z66:=fun _=>by kernel_rfl
  t68:=by kernel_rfl
  a68:=fun _=>by kernel_rfl
  z68:=fun _=>by kernel_rfl
  v68:=fun _=>by kernel_rfl
  i68:=by kernel_rfl
  t69:=by kernel_rfl
  a69:=fun _=>by kernel_rfl
  z69:=fun _=>by kernel_rfl
  v69:=fun _=>by kernel_rfl
  i69:=by kernel_rfl
  g2:=by kernel_rfl
  g3:=by kernel_rfl
}
end Go.Proofs.YtekmhcdgmgbheaaGreatDoor
namespace Go.Proofs.YtekmhcdgmgbheaaGreatDoor
open Go.RowKit Go.Hub Go.Lib
def Tabs (w : World) : Prop:=Lib.Utf8Tabs 0 1 w
theorem Tabs.size {w : World} (h : Tabs w) : 2 ≤ w.heap.size:=by
  have : 1 < w.heap.size:=World.block_lt_of_cell? w _ (h.2 0 (by omega)).1;omega
theorem Tabs.below {w w' : World} {B : Nat} (h : Tabs w) (hb : Below B w w') (hB : 2 ≤ B) : Tabs w':=
  ⟨fun c hc=>(hb.cell (p:=⟨0,c,none⟩) (by show 0 < B; omega)).trans (h.1 c hc),fun i hi=>⟨(hb.cell (p:=⟨1,2 * i,none⟩) (by show 1 < B; omega)).trans (h.2 i hi).1,(hb.cell (p:=⟨1,2 * i + 1,none⟩) (by show 1 < B; omega)).trans (h.2 i hi).2⟩⟩
theorem Tabs.old {w w' : World} (h : Tabs w) (hb : Below w.heap.size w w') : Tabs w':=h.below hb h.size
theorem get_getD (l : List UInt8) (j : Nat) : (⟨l.toArray⟩ : ByteArray).get! j = l.getD j 0:=by
  rw [← getD_get!']
theorem dec_any (b off cap : Nat) (l : List UInt8) (w : World) (hne : 0 < l.length) (hT : Tabs w) (hc : ∀ j, j < l.length → w.cell? ⟨b, off + j, none⟩ = some (.int .u8 ((l.getD j 0).toNat : Int))) :
    Calls Tryz.prog 116 #[.slice (some ⟨b,off,none⟩) l.length cap] w fun e w'=>e = .returned (.tuple #[.int .i32 (decodeL l).1,.int .i64 (decodeL l).2]) ∧ Below w.heap.size w w':=by
  have hs : (⟨l.toArray⟩ : ByteArray).size = l.length:=by show l.toArray.size = l.length; simp
  have h:=Any7.utf8_DecodeRune u8lays ⟨l.toArray⟩ b off cap w hT (fun j hj=>by rw [hs] at hj; rw [get_getD]; exact hc j hj)
  have e : Lib.decodeGo (⟨l.toArray⟩ : ByteArray) = decodeL l:=by
    unfold Lib.decodeGo;rw [if_neg (by rw [hs]; omega)]
    rfl
  rw [hs,e] at h;exact h
theorem Bs_cells {E : List TypeId} {B : Nat} {w : World} {A : Option Addr} {n : Nat} {l : List UInt8} (h : Bs E B w A n l) (hn : 0 < n) : ∃ b off,A = some ⟨b,off,none⟩ ∧ ∀ j,j < n → w.cell? ⟨b,off + j,none⟩ = some (.int .u8 ((l.getD j 0).toNat : Int)):=by
  obtain ⟨b,off,e,_,_,hc⟩:=h.2 hn;exact ⟨b,off,e,fun j hj=>hc j _ (getD_some (by rw [h.1]; exact hj))⟩
theorem drop_cells {b off : Nat} {w : World} {l : List UInt8} (hc : ∀ j, j < l.length → w.cell? ⟨b, off + j, none⟩ = some (.int .u8 ((l.getD j 0).toNat : Int))) (i : Nat) :
    ∀ j,j < (l.drop i).length → w.cell? ⟨b,off + i + j,none⟩ = some (.int .u8 (((l.drop i).getD j 0).toNat : Int)):=fun j hj=>by
  rw [getD_dropU,Nat.add_assoc]
  exact hc _ (by rw [List.length_drop] at hj; omega)
theorem chkf_at (l : List UInt8) (f i : Nat) (hi : i < l.length) (hf : l.length - i ≤ f) :
    ∃ f',f = f' + 1 ∧ chkf f i (l.drop i) = if badL (l.drop i) || (decodeL (l.drop i)).1 == 0 then (i : Int) else chkf f' (i + (decodeL (l.drop i)).2) (l.drop (i + (decodeL (l.drop i)).2)):=by
  obtain ⟨f',rfl⟩ : ∃ f',f = f' + 1:=⟨f - 1,by omega⟩;refine ⟨f',rfl,?_⟩
  have hne : l.drop i ≠ []:=by
    intro h;have:=congrArg List.length h;simp at this;omega
  simp only [chkf];rw [if_neg hne,List.drop_drop]
theorem chkR_any (E : List TypeId) (B : Nat) (A : Option Addr) (cap : Nat) (l : List UInt8) (w : World) (h : Bs E B w A l.length l) (hl : l.length ≤ cap) (hcap : cap ≤ maxLen) :
    Calls Tryz.prog 107 #[.slice A l.length cap] w fun e w'=>e = .returned (.int .i64 (chk l)) ∧ w' = w:=by
  unfold maxLen at hcap
  go_enter Tryz.func107,Tryz.ntmps107
  go_wp2
  go_loopg [3] l.length (fun g v wr=>∃ i f : Nat,i + g = l.length ∧ v = .int .i64 i ∧ l.length - i ≤ f ∧ chkf f i (l.drop i) = chk l ∧ w = wr)
  case atStart=>exact ⟨0,l.length,by omega,rfl,by omega,by simp [chk],rfl⟩
  case round=>
    obtain ⟨i,f,hi,rfl,hf,hk,rfl⟩:=hrel;have HK:=hid hk;clear hk
    by_cases hlt : i < l.length
    · obtain ⟨b, off, rfl, hcell⟩ := Bs_cells h (by omega)
      have HC:=hid hcell;obtain ⟨f',rfl,hstep⟩:=chkf_at l f i hlt hf;have HS:=hid hstep;have HI:=hid hi;have HF:=hid hf;have hdl : (l.drop i).length = l.length - i:=List.length_drop;have hw:=decodeL_width (l.drop i);have hle:=decodeL_le (l.drop i) (by intro h; have:=congrArg List.length h; simp at this; omega);have hi2 : (i : Int) < (l.length : Int):=by omega
      have hi3 : (i : Int) ≤ (cap : Int):=by omega
      have hstp:=step_any b (off + i) (cap - i) (l.drop i) w (by omega) (by unfold maxLen; omega) (drop_cells hcell i);rw [hdl] at hstp hle;clear hcell hstep hi hf hdl h;have hci : ¬ cap = i:=by omega
      go_wp2_with fail
      refine hstp.mono ?_;rintro e w1 ⟨rfl,rfl⟩;obtain ⟨r,hr⟩ : ∃ r,r = decodeL (l.drop i):=⟨_,rfl⟩;unfold stepV;rw [← hr] at hw hle ⊢;have HR:=hid hr;clear hr hstp hlt;cases hb : badL (l.drop i)
      · by_cases hz : r.1 = 0
        · have hz1 : ((r.1 : Int) == 0) = true := by simp; omega
          have HE:=hid (show chk l = (i : Int) by rw [← HK.out,HS.out,← HR.out,hz]; simp);clear hz hb
          go_wp2
          go_ret
          exact ⟨by rw [HE.out]; rfl,rfl⟩
        have hz1 : ((r.1 : Int) == 0) = false:=by simp; omega
        have HE:=hid (show chkf f' (i + r.2) (l.drop (i + r.2)) = chk l by
          rw [← HK.out,HS.out,← HR.out,hb]
          simp [hz])
        clear hz hb
        go_wp2
        go_roundg (gk - r.2)
        case measure=>have:=HI.out; omega
        case rel=>exact ⟨i + r.2,f',by have:=HI.out; omega,by go_num,by have:=HF.out; omega,HE.out,rfl⟩
      have HE:=hid (show chk l = (i : Int) by rw [← HK.out,HS.out,hb]; simp);clear hb
      go_wp2
      go_ret
      exact ⟨by rw [HE.out]; rfl,rfl⟩
    have hi2 : ¬ (i : Int) < (l.length : Int):=by omega
    have HE:=hid (show chk l = -1 by
      rw [← HK.out,List.drop_eq_nil_of_le (by omega),chkf_nil])
    clear hf hlt hi
    go_wp2
    go_ret
    exact ⟨by rw [HE.out]; rfl,rfl⟩
theorem dec_zero (l : List UInt8) (hl : 0 < l.length) : (decodeL l).1 = 0 ↔ (l.getD 0 0).toNat = 0:=by
  rw [decodeL_N]
  rcases decodeN_shape l.length (l.getD 0 0).toNat (l.getD 1 0).toNat (l.getD 2 0).toNat (l.getD 3 0).toNat with ⟨c,e⟩ | ⟨c1,c2,c3,cv,e⟩ | ⟨c1,c2,c3,c4,cv,cs,e⟩ | ⟨c1,c2,c3,c4,c5,cv,cw,e⟩ | e
  · rw [e]
  · rw [e]; dsimp only; omega
  · rw [e]; dsimp only; omega
  · rw [e]; dsimp only; omega
  have hb:=(l.getD 0 0).toNat_lt
  by_cases h : (l.getD 0 0).toNat < 128
  · unfold decodeN at e
    rw [if_pos h] at e;have:=congrArg Prod.fst e
    dsimp only at this
    omega
  rw [e]; dsimp only; omega
theorem chk_any (E : List TypeId) (B : Nat) (A : Option Addr) (cap : Nat) (l : List UInt8) (w : World) (hT : Tabs w) (h : Bs E B w A l.length l) (hl : l.length ≤ cap) (hcap : cap ≤ maxLen) :
    Calls Tryz.prog 99 #[.slice A l.length cap] w fun e w'=>e = .returned (.int .i64 (chk l)) ∧ Below w.heap.size w w':=by
  unfold maxLen at hcap
  go_enter Tryz.func99,Tryz.ntmps99
  go_wp2
  go_loopg [3] l.length (fun g v wr=>∃ i f : Nat,i + g = l.length ∧ v = .int .i64 i ∧ l.length - i ≤ f ∧ chkf f i (l.drop i) = chk l ∧ Below w.heap.size w wr)
  case atStart=>exact ⟨0,l.length,by omega,rfl,by omega,by simp [chk],Below.refl _ _⟩
  case round=>
    obtain ⟨i,f,hi,rfl,hf,hk,hB⟩:=hrel;have HK:=hid hk;clear hk
    by_cases hlt : i < l.length
    · have hT2 := hT.old hB
      obtain ⟨b,off,rfl,hcell⟩:=Bs_cells (h.same (.of_below hB)) (by omega);have HB:=hid hB;have HC:=hid hcell;obtain ⟨f',rfl,hstep⟩:=chkf_at l f i hlt hf;have HS:=hid hstep;have HI:=hid hi;have HF:=hid hf;have hdl : (l.drop i).length = l.length - i:=List.length_drop;have hw:=decodeL_width (l.drop i);have hne : l.drop i ≠ []:=by intro h; have:=congrArg List.length h; simp at this; omega
      have hle:=decodeL_le (l.drop i) hne;have hi2 : (i : Int) < (l.length : Int):=by omega
      have hi3 : (i : Int) ≤ (cap : Int):=by omega
      have hstp:=dec_any b (off + i) (cap - i) (l.drop i) wr (by omega) hT2 (drop_cells hcell i);rw [hdl] at hstp hle;have hzz:=dec_zero (l.drop i) (by omega);rw [getD_dropU,Nat.add_zero] at hzz;have hci : ¬ cap = i:=by omega
      have hcl:=hcell i hlt;have HH:=hid h;clear hcell hstep hi hf hdl h hT2 hB hne
      go_wp2_with fail
      refine hstp.mono ?_;rintro e w1 ⟨rfl,hb1⟩;have hcl:=(hb1.cell (p:=⟨b,off + i,none⟩) (World.block_lt_of_cell? _ _ hcl)).trans hcl;have HB:=hid (HB.out.trans (hb1.mono HB.out.size));obtain ⟨z,hz⟩ : ∃ z,z = (l.getD i 0).toNat:=⟨_,rfl⟩;obtain ⟨r,hr⟩ : ∃ r,r = decodeL (l.drop i):=⟨_,rfl⟩;rw [← hr] at hw hle hzz ⊢;rw [← hz] at hcl hzz;have HR:=hid hr;clear hr hstp hlt hz hb1
      by_cases h1 : r.1 = 0
      · have hz1 : ((z : Int) == 0) = true := by simp; omega
        have HE:=hid (show chk l = (i : Int) by rw [← HK.out,HS.out,← HR.out,h1]; simp);clear h1 hzz
        go_wp2
        go_ret
        exact ⟨by rw [HE.out]; rfl,HB.out⟩
      have hz1 : ((z : Int) == 0) = false:=by simp; omega
      by_cases h2 : r.1 = 65533
      · have hz2 : ((r.1 : Int) == 65533) = true := by simp; omega
        by_cases h3 : r.2 = 1
        · have hz3 : (r.2 : Int) < 2 := by omega
          have HE:=hid (show chk l = (i : Int) by rw [← HK.out,HS.out]; unfold badL; rw [← HR.out,h2,h3]; simp);clear h1 hzz h2 h3
          go_wp2
          go_ret
          exact ⟨by rw [HE.out]; rfl,HB.out⟩
        have hz3 : ¬ (r.2 : Int) < 2:=by omega
        have HE:=hid (show chkf f' (i + r.2) (l.drop (i + r.2)) = chk l by
          rw [← HK.out,HS.out]; unfold badL; rw [← HR.out]
          simp [h1,h3])
        clear h1 hzz h2 h3
        go_wp2
        go_roundg (gk - r.2)
        case measure=>have:=HI.out; omega
        case rel=>exact ⟨i + r.2,f',by have:=HI.out; omega,by go_num,by have:=HF.out; omega,HE.out,HB.out⟩
      have hz2 : ((r.1 : Int) == 65533) = false:=by simp; omega
      have HE:=hid (show chkf f' (i + r.2) (l.drop (i + r.2)) = chk l by
        rw [← HK.out,HS.out]; unfold badL; rw [← HR.out]
        simp [h1,h2])
      clear h1 hzz h2
      go_wp2
      go_roundg (gk - r.2)
      case measure=>have:=HI.out; omega
      case rel=>exact ⟨i + r.2,f',by have:=HI.out; omega,by go_num,by have:=HF.out; omega,HE.out,HB.out⟩
    have hi2 : ¬ (i : Int) < (l.length : Int):=by omega
    have HE:=hid (show chk l = -1 by
      rw [← HK.out,List.drop_eq_nil_of_le (by omega),chkf_nil])
    clear hf hlt hi
    go_wp2
    go_ret
    exact ⟨by rw [HE.out]; rfl,hB⟩
end Go.Proofs.YtekmhcdgmgbheaaGreatDoor
namespace Go.Hub
open Go.RowKit Go.Lib
theorem bs_conv (E : List TypeId) (B : Nat) (w : World) (s : ByteArray) (e : TypeId) (he : e ∈ E) (cap : Nat) (fr : Nat × Nat) :
    Bs E B (w.drew.alloc (.cells (bytesRow s cap) e fr)) (some ⟨w.heap.size,0,none⟩) s.data.toList.length s.data.toList:=by
  refine ⟨rfl,fun _=>⟨w.heap.size,0,rfl,by simp,.inr ⟨_,e,fr,heap_alloc_new w.drew _,he⟩,fun j x hx=>?_⟩⟩;rw [Nat.zero_add]
  have hj : j < s.data.size:=by
    have:=(List.getElem?_eq_some_iff.1 hx).1
    simpa using this
  refine (World.cell?_alloc_mark w.drew _ _ _ _).trans ?_;rw [bytesRow_at s cap j hj]
  have : x = s.data[j]:=by
    have:=(List.getElem?_eq_some_iff.1 hx).2;simp at this;exact this.symm
  rw [this]
  rfl
end Go.Hub
namespace Go.Proofs.YtekmhcdgmgbheaaGreatDoor
open Go.RowKit Go.Hub Go.Lib
theorem toList_len (s : ByteArray) : s.toList.length = s.size:=by rw [ByteArray.toList_eq]; rfl
theorem pos_of {s : ByteArray} (h : ¬ s = ⟨#[]⟩) : 0 < s.size:=by
  have : s.size ≠ 0:=fun e=>h (ByteArray.ext (Array.eq_empty_of_size_eq_zero e));omega
theorem pos_not {s : ByteArray} (h : s = ⟨#[]⟩) : s.size = 0:=by subst h; rfl
def textB (s : ByteArray) : Bool:=decide (0 < s.size) && (decide (s.size ≤ 65535) && decide (chk s.toList < 0))
theorem text_t {s : ByteArray} (h1 : 0 < s.size) (h2 : s.size ≤ 65535) : textB s = decide (chk s.toList < 0):=by simp [textB,h1,h2]
theorem text_f {s : ByteArray} (h : ¬ (0 < s.size ∧ s.size ≤ 65535)) : textB s = false:=by
  unfold textB
  by_cases h1 : 0 < s.size
  · rw [decide_eq_false (p:=s.size ≤ 65535) (by omega)]; simp
  rw [decide_eq_false h1]; rfl
section
variable {P : Program} {ops : Array Oper} {rest : List Oper} {a : Act} {w : World} {Q : Exit → Act → World → Prop} {n d : Nat} {l : FL} {ty : TypeId} {ps : String} {af : Array Edge} {gd : Option (Nat × Bool)} {x : Operand} {src dst u8t : TypeId}
theorem L.convSB (f : Fr n a l) (hw : Region.wanted ⟨some d, .convert src dst x, ty, ps, af, gd⟩ (yielded ops a.tmps) = true) (hn : d < n) (hs : P.underlying src = some .string) (hd : P.underlying dst = some (.slice 5)) (he : P.underlying 5 = some (.int .u8)) {s : ByteArray} (hx : evl l x = some (.string s))
    (hm : s.size ≤ 1000000) (hK : ∀ a' w' c,Fr n a' ((d,.slice (some ⟨w.heap.size,0,none⟩) s.toList.length c) :: l) → (s.toList.length ≤ c ∧ c ≤ maxLen) → Bs [5] w'.heap.size w' (some ⟨w.heap.size,0,none⟩) s.toList.length s.toList → Kept [] w w' → wpList P ops Q rest a' w') : wpList P ops Q (⟨some d,.convert src dst x,ty,ps,af,gd⟩ :: rest) a w:=by
  have h:=run_bytes_of_string (P:=P) w src dst 5 s hs hd he;refine L.val (v:=.slice (some ⟨w.heap.size,0,none⟩) s.size (grownCap w s.size 0 5)) (w':=w.drew.alloc (.cells (bytesRow s (grownCap w s.size 0 5)) 5 ((bytesRow s (grownCap w s.size 0 5)).size,(bytesRow s (grownCap w s.size 0 5)).size + 1))) f hw rfl hn (by simp only [execOp,f.ev hx,Sem.run_bind,h,Result.andThen,Sem.run_pure]) fun a' f'=>hK a' _ (grownCap w s.size 0 5) (by rw [toList_len]; exact f') ?_ ?_ ?_
  · rw [toList_len]
    exact ⟨grownCap_ge _ _ _ _,grownCap_le_maxLen _ _ _ _ (by unfold maxLen; omega)⟩
  · rw [ByteArray.toList_eq]
    exact bs_conv [5] _ w s 5 (by simp) _ _
  exact ((Kept.refl [] w).drewN 1).alloc _
end
theorem text_any (s : ByteArray) (w : World) (hT : Tabs w) (hs : s.size ≤ 1000000) : Calls Tryz.prog 61 #[.string s] w (fun e w'=>Kept [] w w' ∧ e = .returned (.bool (textB s))):=by
 have HK : Kept [] w w:=Kept.refl [] w;refine C.enter Tryz.func61 rfl Tryz.ntmps61 rfl ?_;intro a f;have f : Fr 16 a [(0,.string s)]:=f;refine C.sk fun _ k=>?_;refine L.ag f fun _ f=>?_;have f:=f.pk [0,2];refine wn k (C.sk fun _ k=>?_);refine L.mv f fun _ f=>?_;refine L.va f (E.neqS f rfl rfl) fun _ f=>?_;refine L.mv f fun _ f=>?_;refine f.splitN 5 rfl (fun h0 f=>?_) (fun h0 f=>?_)
 ·have h5:=h0;refine L.mv f (hw:=f.y) fun _ f21=>?_;refine L.va f21 (E.lenS f21 U9 rfl) (hw:=f21.y) fun _ f21=>?_;refine L.va f21 (E.leq f21 rfl rfl) (hw:=f21.y) fun _ f21=>?_;refine L.va f21 (E.pickT f21 rfl rfl) fun _ f21=>?_;refine L.mv f21 fun _ f21=>?_;refine f21.splitD 10 rfl (fun h1 f21=>?_) (fun h1 f21=>?_)
  ·have h10:=h1;refine L.mv f21 (hw:=f21.y) fun _ f22=>?_;refine L.convSB f22 f22.y (by decide) U9 U25 U5 rfl (by omega) fun _ w1 cb f22 hcb BS kcv=>?_;have szw1:=kcv.size;replace HK:=HK.z kcv;clear kcv;refine L.cl f22 (rc1 f22 Tryz.call99) (chk_any [5] w1.heap.size _ cb s.toList w1 (hT.old (HK.below (by simp) (Nat.le_refl _))) BS hcb.1 hcb.2) ?_ (hw:=f22.y);rintro e w2 ⟨rfl,kb⟩;have q:=Kept.of_below kb [];refine ⟨_,rfl,fun _ f22=>?_⟩;have szw2:=q.size;replace HK:=HK.z q;clear q;refine L.va f22 (E.lss f22 rfl rfl) (hw:=f22.y) fun _ f22=>?_;refine L.va f22 (E.pickT f22 rfl rfl) fun _ f22=>?_;refine L.ag f22 fun _ f22=>?_;have f22:=f22.pk [2];refine wn k (wp_ret ?_); (try simp only [xt,xb]); refine C.ret f22 rfl rfl ?_;exact ⟨HK,by rw [text_t (pos_of h5) (by omega)]⟩
  have h10:=h1;refine L.skip f21 f21.nT rfl (by decide) fun _ f21=>?_;refine L.skip f21 f21.nT rfl (by decide) fun _ f21=>?_;refine L.run f21 (rest':=[]) (by kernel_rfl) fun _ f21=>?_;have f21:=f21.sub (sv 2 (.bool false) sn);refine wn k (wp_ret ?_); (try simp only [xt,xb]); refine C.ret f21 rfl rfl ?_;exact ⟨HK,by rw [text_f (by omega)]⟩
 have h5:=h0;refine L.skip f f.nT rfl (by decide) fun _ f=>?_;refine L.skip f f.nT rfl (by decide) fun _ f=>?_;refine L.skip f f.nT rfl (by decide) fun _ f=>?_;refine L.va f (E.pickF f rfl rfl) fun _ f=>?_;refine L.mv f fun _ f=>?_;refine L.skip f f.nT rfl (by decide) fun _ f=>?_;refine L.skip f f.nT rfl (by decide) fun _ f=>?_;refine L.run f (rest':=[]) (by kernel_rfl) fun _ f=>?_;have f:=f.sub (sv 2 (.bool false) sn);refine wn k (wp_ret ?_); (try simp only [xt,xb]); refine C.ret f rfl rfl ?_;exact ⟨HK,by rw [text_f (by rw [pos_not h5]; omega)]⟩
theorem textR_any (s : ByteArray) (w : World) (hT : Tabs w) (hs : s.size ≤ 1000000) : Calls Tryz.prog 74 #[.string s] w (fun e w'=>Kept [] w w' ∧ e = .returned (.bool (textB s))):=by
 have HK : Kept [] w w:=Kept.refl [] w;refine C.enter Tryz.func74 rfl Tryz.ntmps74 rfl ?_;intro a f;have f : Fr 17 a [(0,.string s)]:=f;refine C.sk fun _ k=>?_;refine L.ag f fun _ f=>?_;have f:=f.pk [0,2];refine wn k (C.sk fun _ k=>?_);refine L.mv f fun _ f=>?_;refine L.va f (E.lenS f U9 rfl) fun _ f=>?_;refine L.va f (E.geq f rfl rfl) fun _ f=>?_;refine L.mv f fun _ f=>?_;refine f.splitD 6 rfl (fun h0 f=>?_) (fun h0 f=>?_)
 ·have h6:=h0;refine L.mv f (hw:=f.y) fun _ f22=>?_;refine L.va f22 (E.lenS f22 U9 rfl) (hw:=f22.y) fun _ f22=>?_;refine L.va f22 (E.leq f22 rfl rfl) (hw:=f22.y) fun _ f22=>?_;refine L.va f22 (E.pickT f22 rfl rfl) fun _ f22=>?_;refine L.mv f22 fun _ f22=>?_;refine f22.splitD 11 rfl (fun h1 f22=>?_) (fun h1 f22=>?_)
  ·have h11:=h1;refine L.mv f22 (hw:=f22.y) fun _ f23=>?_;refine L.convSB f23 f23.y (by decide) U9 U25 U5 rfl (by omega) fun _ w1 cb f23 hcb BS kcv=>?_;have szw1:=kcv.size;replace HK:=HK.z kcv;clear kcv;refine L.cl f23 (rc1 f23 Tryz.call107) (chkR_any [5] w1.heap.size _ cb s.toList w1 BS hcb.1 hcb.2) ?_ (hw:=f23.y);rintro e w1x ⟨rfl,rfl⟩;refine ⟨_,rfl,fun _ f23=>?_⟩;refine L.va f23 (E.lss f23 rfl rfl) (hw:=f23.y) fun _ f23=>?_;refine L.va f23 (E.pickT f23 rfl rfl) fun _ f23=>?_;refine L.ag f23 fun _ f23=>?_;have f23:=f23.pk [2];refine wn k (wp_ret ?_); (try simp only [xt,xb]); refine C.ret f23 rfl rfl ?_;exact ⟨HK,by rw [text_t (by omega) (by omega)]⟩
  have h11:=h1;refine L.skip f22 f22.nT rfl (by decide) fun _ f22=>?_;refine L.skip f22 f22.nT rfl (by decide) fun _ f22=>?_;refine L.run f22 (rest':=[]) (by kernel_rfl) fun _ f22=>?_;have f22:=f22.sub (sv 2 (.bool false) sn);refine wn k (wp_ret ?_); (try simp only [xt,xb]); refine C.ret f22 rfl rfl ?_;exact ⟨HK,by rw [text_f (by omega)]⟩
 have h6:=h0;refine L.skip f f.nT rfl (by decide) fun _ f=>?_;refine L.skip f f.nT rfl (by decide) fun _ f=>?_;refine L.skip f f.nT rfl (by decide) fun _ f=>?_;refine L.va f (E.pickF f rfl rfl) fun _ f=>?_;refine L.mv f fun _ f=>?_;refine L.skip f f.nT rfl (by decide) fun _ f=>?_;refine L.skip f f.nT rfl (by decide) fun _ f=>?_;refine L.run f (rest':=[]) (by kernel_rfl) fun _ f=>?_;have f:=f.sub (sv 2 (.bool false) sn);refine wn k (wp_ret ?_); (try simp only [xt,xb]); refine C.ret f rfl rfl ?_;exact ⟨HK,by rw [text_f (by omega)]⟩
end Go.Proofs.YtekmhcdgmgbheaaGreatDoor
namespace Go.Proofs.YtekmhcdgmgbheaaGreatDoor
open Go.Shelf
def spren : Ren:=⟨fun | 138=>129 | 143=>130 | 146=>110 | 195=>132 | 197=>133 | 217=>138 | 218=>134 | 219=>135 | 221=>122 | 224=>140 | 225=>139 | 260=>137 | 266=>142 | 267=>141 | 268=>128 | 314=>143 | n=>n,fun | 31=>62 | 46=>124 | 51=>154 | 105=>132 | 119=>145 | 138=>147 | 139=>148 | 146=>155 | n=>n,fun | 1=>2 | 3=>0 | 4=>1 | n=>n⟩
theorem splitL : Lays.n146 Tryz.prog spren := {
  mixed:=by kernel_rfl
  f138:=by kernel_rfl
  f143:=by kernel_rfl
  f146:=by kernel_rfl
  f195:=by kernel_rfl
  f197:=by kernel_rfl
  f217:=by kernel_rfl
  f218:=by kernel_rfl
  f219:=by kernel_rfl
  f221:=by kernel_rfl
  f224:=by kernel_rfl
  f225:=by kernel_rfl
  f260:=by kernel_rfl
  f266:=by kernel_rfl
  f267:=by kernel_rfl
  f268:=by kernel_rfl
  f314:=by kernel_rfl
  t0:=by kernel_rfl
  a0:=fun _=>by kernel_rfl
  z0:=fun _=>by kernel_rfl
  v0:=fun _=>by kernel_rfl
  t3:=by kernel_rfl
  a3:=fun _=>by kernel_rfl
  z3:=fun _=>by kernel_rfl
  v3:=fun _=>by kernel_rfl
  t4:=by kernel_rfl
  a4:=fun _=>by kernel_rfl
  z4:=fun _=>by kernel_rfl
  v4:=fun _=>by kernel_rfl
  t5:=by kernel_rfl
  a5:=fun _=>by kernel_rfl
  z5:=fun _=>by kernel_rfl
  v5:=fun _=>by kernel_rfl
  t9:=by kernel_rfl
  a9:=fun _=>by kernel_rfl
  z9:=fun _=>by kernel_rfl
  v9:=fun _=>by kernel_rfl
  t21:=by kernel_rfl
  a21:=fun _=>by kernel_rfl
  z21:=fun _=>by kernel_rfl
  v21:=fun _=>by kernel_rfl
  t31:=by kernel_rfl
  a31:=fun _=>by kernel_rfl
  z31:=fun _=>by kernel_rfl
  v31:=fun _=>by kernel_rfl
  t46:=by kernel_rfl
  a46:=fun _=>by kernel_rfl
  z46:=fun _=>by kernel_rfl
  v46:=fun _=>by kernel_rfl
  t51:=by kernel_rfl
  a51:=fun _=>by kernel_rfl
  z51:=fun _=>by kernel_rfl
  v51:=fun _=>by kernel_rfl
  t105:=by kernel_rfl
  a105:=fun _=>by kernel_rfl
  z105:=fun _=>by kernel_rfl
  v105:=fun _=>by kernel_rfl
  t119:=by kernel_rfl
  a119:=fun _=>by kernel_rfl
  z119:=fun _=>by kernel_rfl
  t138:=by kernel_rfl
  a138:=fun _=>by kernel_rfl
  z138:=fun _=>by kernel_rfl
  v138:=fun _=>by kernel_rfl
  t139:=by kernel_rfl
  a139:=fun _=>by kernel_rfl
  z139:=fun _=>by kernel_rfl
  v139:=fun _=>by kernel_rfl
  t146:=by kernel_rfl
  a146:=fun _=>by kernel_rfl
  z146:=fun _=>by kernel_rfl
  v146:=fun _=>by kernel_rfl
  g1:=by kernel_rfl
  g3:=by kernel_rfl
  g4:=by kernel_rfl
}
end Go.Proofs.YtekmhcdgmgbheaaGreatDoor
namespace Go.Proofs.YtekmhcdgmgbheaaGreatDoor
open Go.RowKit Go.Hub Go.Lib Go.Shelf
def Glob (w : World) : Prop:=Tabs w ∧ ∃ m,w.cell? ⟨2,0,none⟩ = some (.int .i64 m)
theorem Glob.kept {w w' : World} (h : Glob w) (hk : Kept [] w w') : Glob w':=⟨h.1.old (hk.below (by simp) (Nat.le_refl _)),by
  obtain ⟨m,hm⟩:=h.2
  exact ⟨m,(hk.cell (p:=⟨2,0,none⟩) (World.block_lt_of_cell? w _ hm) (by simp)).trans hm⟩⟩
def slash : ByteArray:=⟨#[47]⟩
def levelsL (s : ByteArray) : List ByteArray:=Lib.splitB slash 0 (Lib.countB s slash) s
def LevPost (s : ByteArray) (w : World) (e : Ending) (w' : World) : Prop:=Kept [] w w' ∧ ∃ A c,e = .returned (.slice A (levelsL s).length c) ∧ Ss w' A (levelsL s) ∧ (levelsL s).length ≤ c ∧ 1 ≤ (levelsL s).length ∧ (levelsL s).length ≤ s.size + 1
theorem lev_len (s : ByteArray) : (levelsL s).length = Lib.countB s slash + 1:=Lib.splitB_all slash (by decide) 0 _ s rfl
theorem cnt_le (s : ByteArray) : Lib.countB s slash ≤ s.size:=Lib.countB_le slash (by decide) s.size s (Nat.le_refl _)
theorem split_any (s : ByteArray) (w : World) (G : Glob w) (hs : s.size ≤ 1000000) : Calls Tryz.prog 110 #[.string s,.string ⟨#[47]⟩] w (LevPost s w):=by
  obtain ⟨m,hm⟩:=G.2;have h:=Any.strings_Split splitL (by kernel_rfl) s slash m w (by omega) hm (by decide);refine Calls.mono h ?_;rintro e w' ⟨rfl,rfl⟩;refine ⟨(Kept.refl [] w).alloc _,some ⟨w.heap.size,0,none⟩,Lib.countB s slash + 1,by rw [lev_len],?_,by rw [lev_len]; exact Nat.le_refl _,by rw [lev_len]; omega,by rw [lev_len]; have:=cnt_le s; omega⟩;refine ⟨by simp,fun _=>⟨w.heap.size,0,rfl,by simp,fun j u hu=>?_⟩⟩;rw [Nat.zero_add];refine (World.cell?_alloc_mark w _ _ _ _).trans ?_;rw [← Array.getElem?_toList];exact hu
theorem levels_any (s : ByteArray) (w : World) (G : Glob w) (hs : s.size ≤ 1000000) : Calls Tryz.prog 81 #[.string s] w (LevPost s w):=by
 have HK : Kept [] w w:=Kept.refl [] w;refine C.enter Tryz.func81 rfl Tryz.ntmps81 rfl ?_;intro a f;have f : Fr 5 a [(0,.string s)]:=f;refine C.sk fun _ k=>?_;refine L.ag f fun _ f=>?_;have f:=f.pk [0,2];refine wn k (C.sk fun _ k=>?_);refine L.mv f fun _ f=>?_;refine L.cl f (rc2 f Tryz.call110) (split_any s _ G hs) ?_;rintro e w1 ⟨q,A,c,rfl,h1,h2,h3,h4⟩;refine ⟨_,rfl,fun _ f=>?_⟩;have szw1:=q.size;replace HK:=HK.z q;clear q;refine L.ag f fun _ f=>?_;have f:=f.pk [2];refine wn k (wp_ret ?_); (try simp only [xt,xb]); refine C.ret f rfl rfl ?_;exact ⟨HK,A,c,rfl,h1,h2,h3,h4⟩
end Go.Proofs.YtekmhcdgmgbheaaGreatDoor
namespace Go.Proofs.YtekmhcdgmgbheaaGreatDoor
open Go.RowKit Go.Hub Go.Lib
def nameB (s : ByteArray) : Bool:=textB s && !anyW s
theorem any_has (s : ByteArray) : anyW s = (hasB s 43 || hasB s 35):=by
  unfold anyW hasB
  induction s.toList with
  | nil=>rfl
  | cons b l ih=>
    rw [List.any_cons,ih,List.contains_cons,List.contains_cons]
    have h1 : wildU b = (43 == b || 35 == b):=by
      unfold wildU wildI
      have e : ∀ c : UInt8,(c == b) = decide (((b.toNat : Nat) : Int) = c.toNat):=fun c=>by
        by_cases h : c = b
        · subst h; simp
        have : ¬ ((b.toNat : Nat) : Int) = c.toNat:=fun hh=>h (UInt8.toNat_inj.1 (by omega)).symm;simp [h,this]
      rw [e 43,e 35]
      rfl
    rw [h1]
    cases (43 == b) <;> cases (35 == b) <;> cases (List.contains l 43) <;> cases (List.contains l 35) <;> rfl
theorem name_any (s : ByteArray) (w : World) (G : Glob w) (hs : s.size ≤ 1000000) : Calls Tryz.prog 27 #[.string s] w (fun e w'=>Kept [] w w' ∧ e = .returned (.bool (nameB s))):=by
 have HK : Kept [] w w:=Kept.refl [] w;refine C.enter Tryz.func27 rfl Tryz.ntmps27 rfl ?_;intro a1 f;have f : Fr 14 a1 [(0,.string s)]:=f;refine C.sk fun _ k=>?_;refine L.ag f fun _ f=>?_;refine wn k ?_;have f:=f.pk [0,2];refine wp_seq_k fun _ k=>C.sk fun _ k1=>?_;refine L.mv f fun _ f=>?_;refine L.range f wantedN (by decide) U9 rfl fun _ w1 g0 Ig0 q log0 f=>?_;have szw1:=q.size;have ltg0:=Ig0.lt;replace HK:=HK.z q;clear q;refine wn k1 ?_;have f:=f.pk [0,2,6];refine wp_block ?_;refine C.loop (fun gk a W=>∃ pos : Nat,pos ≤ s.size ∧ s.size ≤ pos + gk ∧ (∀ j b,j < pos → s[j]? = some b → wildU b = false) ∧ Kept [] w W ∧ Iter W g0 s pos ∧ Fr 14 a [(0,.string s),(6,.pointer (some ⟨g0,0,none⟩))]) (s.size) ?_ ?_
 ·exact ⟨0,by omega,by omega,fun j b h=>by omega,HK,Ig0,f.sub (sx (sx sn))⟩
 intro gk4 _ w2 hI KL3 hKL3;obtain ⟨pos,hpl,hk,hq,HK,Ig0,f22⟩:=hI
 try clear f
 refine C.sk fun _ k1=>?_;refine L.next f22 wantedN (by decide) rfl Ig0 fun _ w3 IN3 ki3 f=>?_
 have szw3:=ki3.size;replace HK:=HK.trans ki3 (by intro x hx hlt; simp at hx; subst hx; (exfalso; omega));replace Ig0:=IN3;clear ki3;refine L.va f (E.extract f rfl nextV_ok) fun _ f=>?_;refine wn k1 ?_;have f:=f.pk [0,6,7,8];refine wp_seq_k fun _ k1=>?_;refine f.splitD 8 rfl (fun h0 f=>?_) (fun h0 f=>?_)
 ·have hp : pos < s.size:=by simpa using h0
  refine C.condT f rfl ?_;refine wp_skip (k1 _ _ ?_);have f22:=f.pk [0,6,7,8];refine wp_block ?_;refine C.sk fun _ k1=>?_;refine L.va f22 (E.extract f22 rfl (nextV_rune hp)) fun _ f22=>?_;refine L.ag f22 fun _ f22=>?_;have f22:=f22.pk [0,4,6,7,8,9];refine wn k1 (C.sk fun _ k1=>?_);refine L.mv f22 fun _ f22=>?_;refine L.cl f22 (rc1 f22 Tryz.call60) (wild_any _ _) ?_;rintro e w3x ⟨rfl,rfl⟩;refine ⟨_,rfl,fun _ f22=>?_⟩;refine wn k1 ?_;have f22:=f22.pk [0,4,6,7,8,9,10,11];refine f22.split 11 rfl (fun h1 f22=>?_) (fun h1 f22=>?_)
  ·have h11:=h1;refine C.condT f22 rfl ?_;refine C.sk fun _ k1=>?_;refine L.ag f22 fun _ f23=>?_;have f23:=f23.pk [0,2,4,6,7,8,9,10,11];refine wn k1 (wp_ret ?_); (try simp only [xt,xb]); refine C.ret f23 rfl rfl ?_;exact ⟨HK,by unfold nameB; rw [skip_yes hp h11]; simp⟩
  have h11:=h1;refine C.condF f22 rfl ?_;refine wp_skip (hKL3 _ _ (gk4 - 1) ?_ ?_)
  ·omega
  exact ⟨pos + (Utf8.decode s pos).2,(skip_to hp).1,by have:=(skip_to hp).2; omega,skip_next hp hq (by simpa using h11),HK,by rw [nextP_at hp] at Ig0; exact Ig0,f22.sub (sx (sx sn))⟩
 have hp : ¬ pos < s.size:=by simpa using h0
 refine C.condF f rfl ?_;refine wp_exit (k _ _ ?_);have f:=f.pk [0];refine C.sk fun _ k=>?_;refine L.mv f fun _ f=>?_;refine L.cl f (rc1 f Tryz.call61) (text_any s w3 (G.kept HK).1 hs) ?_;rintro e w4 ⟨q,rfl⟩;refine ⟨_,rfl,fun _ f=>?_⟩;have szw4:=q.size;replace HK:=HK.z q;replace Ig0:=Ig0.kept q (by simp);clear q;refine L.ag f fun _ f=>?_;have f:=f.pk [2];refine wn k (wp_ret ?_); (try simp only [xt,xb]); refine C.ret f rfl rfl ?_;exact ⟨HK,by unfold nameB; rw [skip_no hp hq]; simp⟩
theorem nameR_any (s : ByteArray) (w : World) (G : Glob w) (hs : s.size ≤ 1000000) : Calls Tryz.prog 36 #[.string s] w (fun e w'=>Kept [] w w' ∧ e = .returned (.bool (nameB s))):=by
 have HK : Kept [] w w:=Kept.refl [] w;refine C.enter Tryz.func36 rfl Tryz.ntmps36 rfl ?_;intro a f;have f : Fr 15 a [(0,.string s)]:=f;refine C.sk fun _ k=>?_;refine L.ag f fun _ f=>?_;have f:=f.pk [0,2];refine wn k (C.sk fun _ k=>?_);refine L.mv f fun _ f=>?_;refine L.cl f (rc1 f Tryz.call74) (textR_any s w (G.kept HK).1 hs) ?_;rintro e w1 ⟨q,rfl⟩;refine ⟨_,rfl,fun _ f=>?_⟩;have szw1:=q.size;replace HK:=HK.z q;clear q;refine L.mv f fun _ f=>?_;refine f.split 5 rfl (fun h0 f=>?_) (fun h0 f=>?_)
 ·have h5:=h0;refine L.mv f (hw:=f.y) fun _ f20=>?_;refine L.cl f20 (rc2 f20 Tryz.call75) (has_any s 43 _ hs) ?_ (hw:=f20.y);rintro e w1x ⟨rfl,rfl⟩;refine ⟨_,rfl,fun _ f20=>?_⟩;refine L.va f20 (E.not f20 rfl) (hw:=f20.y) fun _ f20=>?_;refine L.va f20 (E.pickT f20 rfl rfl) fun _ f20=>?_;refine L.mv f20 fun _ f20=>?_;refine f20.splitNB 10 rfl (fun h1 f20=>?_) (fun h1 f20=>?_)
  ·have h10:=h1;refine L.mv f20 (hw:=f20.y) fun _ f21=>?_;refine L.cl f21 (rc2 f21 Tryz.call75) (has_any s 35 _ hs) ?_ (hw:=f21.y);rintro e w1x ⟨rfl,rfl⟩;refine ⟨_,rfl,fun _ f21=>?_⟩;refine L.va f21 (E.not f21 rfl) (hw:=f21.y) fun _ f21=>?_;refine L.va f21 (E.pickT f21 rfl rfl) fun _ f21=>?_;refine L.ag f21 fun _ f21=>?_;have f21:=f21.pk [2];refine wn k (wp_ret ?_); (try simp only [xt,xb]); refine C.ret f21 rfl rfl ?_;exact ⟨HK,by unfold nameB; rw [any_has]; simp [*]⟩
  have h10:=h1;refine L.run f20 (rest':=[]) (by kernel_rfl) fun _ f20=>?_;have f20:=f20.sub (sv 2 (.bool false) sn);refine wn k (wp_ret ?_); (try simp only [xt,xb]); refine C.ret f20 rfl rfl ?_;exact ⟨HK,by unfold nameB; rw [any_has]; simp [*]⟩
 have h5:=h0;refine L.run f (rest':=[]) (by kernel_rfl) fun _ f=>?_;have f:=f.sub (sv 2 (.bool false) sn);refine wn k (wp_ret ?_); (try simp only [xt,xb]); refine C.ret f rfl rfl ?_;exact ⟨HK,by unfold nameB; rw [any_has]; simp [*]⟩
end Go.Proofs.YtekmhcdgmgbheaaGreatDoor
namespace Go.Proofs.YtekmhcdgmgbheaaGreatDoor
open Go.RowKit Go.Hub Go.Lib
def okL (p : ByteArray) (last : Bool) : Bool:=decide (p = ⟨#[43]⟩) || (decide (p = ⟨#[35]⟩) && last) || !anyW p
theorem any35 : anyW ⟨#[35]⟩ = true:=by kernel_rfl
def okAll : List ByteArray → Bool
  | []=>true
  | p :: r=>okL p r.isEmpty && okAll r
theorem ok_at {l : List ByteArray} {k : Nat} {p : ByteArray} (h : l[k]? = some p) : okAll (l.drop k) = (okL p (decide (((k : Nat) : Int) = (l.length : Int) - 1)) && okAll (l.drop (k + 1))):=by
  obtain ⟨hk,rfl⟩:=List.getElem?_eq_some_iff.1 h;rw [List.drop_eq_getElem_cons hk,okAll]
  have e : (l.drop (k + 1)).isEmpty = decide (((k : Nat) : Int) = (l.length : Int) - 1):=by
    rw [Bool.eq_iff_iff];simp [List.isEmpty_iff,List.drop_eq_nil_iff];omega
  rw [e]
def filterB (s : ByteArray) : Bool:=textB s && okAll (levelsL s)
theorem ok_next {l : List ByteArray} {k : Nat} {p : ByteArray} (h : l[k]? = some p) (ho : okL p (decide (((k : Nat) : Int) = (l.length : Int) - 1)) = true) : okAll (l.drop (k + 1)) = okAll (l.drop k):=by
  rw [ok_at h,ho,Bool.true_and]
theorem filter_any (s : ByteArray) (w : World) (G : Glob w) (hs : s.size ≤ 1000000) : Calls Tryz.prog 80 #[.string s] w (fun e w'=>Kept [] w w' ∧ e = .returned (.bool (filterB s))):=by
 have HK : Kept [] w w:=Kept.refl [] w;refine C.enter Tryz.func80 rfl Tryz.ntmps80 rfl ?_;intro a1 f;have f : Fr 37 a1 [(0,.string s)]:=f;refine C.sk fun _ k1=>?_;refine L.ag f fun _ f=>?_;refine wn k1 ?_;have f:=f.pk [0,2];refine wp_seq_k fun _ k1=>C.sk fun _ k2=>?_;refine L.mv f fun _ f=>?_;refine L.cl f (rc1 f Tryz.call61) (text_any s w (G.kept HK).1 hs) ?_;rintro e w1 ⟨q,rfl⟩;refine ⟨_,rfl,fun _ f=>?_⟩;have szw1:=q.size;replace HK:=HK.z q;clear q;refine L.va f (E.not f rfl) fun _ f=>?_;refine wn k2 ?_;have f:=f.pk [0,2,8];refine f.splitNB 8 rfl (fun h0 f=>?_) (fun h0 f=>?_)
 ·have h8:=h0;refine C.condT f rfl ?_;refine C.sk fun _ k2=>?_;refine L.ag f fun _ f55=>?_;have f55:=f55.pk [0,2];refine wn k2 (wp_ret ?_); (try simp only [xt,xb]); refine C.ret f55 rfl rfl ?_;exact ⟨HK,by unfold filterB; simp [*]⟩
 have h8:=h0;refine C.condF f rfl ?_;refine wp_skip (k1 _ _ ?_);have f:=f.pk [0,2];refine C.sk fun _ k1=>?_;refine L.mv f fun _ f=>?_;refine L.cl f (rc1 f Tryz.call81) (levels_any s w1 (G.kept HK) hs) ?_;rintro e w2 ⟨q,A,c,rfl,LS,l2,l3,l4⟩;refine ⟨_,rfl,fun _ f=>?_⟩;have szw2:=q.size;replace HK:=HK.z q;clear q;refine L.ag f fun _ f=>?_;refine wn k1 ?_;have f:=f.pk [2,3];refine wp_seq_k fun _ k1=>C.sk fun _ k2=>?_;refine L.mv f fun _ f=>?_;refine L.va f (E.lenL f U62 rfl) fun _ f=>?_;refine L.mv f fun _ f=>?_;refine wn k2 ?_;have f:=f.pk [2,3,11,12,13];refine wp_block ?_;refine C.loop (fun gk a W=>∃ k : Nat,k + gk = (levelsL s).length ∧ okAll ((levelsL s).drop k) = okAll (levelsL s) ∧ Kept [] w W ∧ Ss W A (levelsL s) ∧ Fr 37 a [(3,.slice A (levelsL s).length c),(11,.slice A (levelsL s).length c),(12,.int .i64 (levelsL s).length),(13,.int .i64 k)]) ((levelsL s).length) ?_ ?_
 ·exact ⟨0,by omega,rfl,HK,LS,f.sub (sx (sx (sx (sx sn))))⟩
 intro gk8 _ w3 hI KL7 hKL7;obtain ⟨k,hk,hq,HK,LS,f55⟩:=hI
 try clear f
 refine C.sk fun _ k2=>?_;refine L.va f55 (E.lss f55 rfl rfl) fun _ f=>?_;refine wn k2 ?_;have f:=f.pk [3,11,12,13,14];refine wp_seq_k fun _ k2=>?_;refine f.splitD 14 rfl (fun h1 f=>?_) (fun h1 f=>?_)
 ·obtain ⟨p,hx⟩ : ∃ p,(levelsL s)[k]? = some p:=⟨(levelsL s)[k]'(by omega),List.getElem?_eq_getElem _⟩;obtain ⟨b1,o1,hA⟩:=LS.addr (k:=k) (by omega);refine C.condT f rfl ?_;refine wp_skip (k2 _ _ ?_);have f55:=f.pk [3,11,12,13,14];refine wp_seq_k fun _ k2=>?_;refine wp_block ?_;refine C.sk fun _ k3=>?_;refine L.mv f55 fun _ f55=>?_;refine L.va f55 (E.indexA f55 (by assumption) U62 Z8 rfl rfl (by omega) (by omega)) fun _ f55=>?_;refine L.va f55 (E.load f55 U9 rfl rfl (ss_cell LS hA hx)) fun _ f55=>?_;refine L.ag f55 fun _ f55=>?_;refine L.ag f55 fun _ f55=>?_;have f55:=f55.pk [3,4,5,11,12,13,14,15,16,17];refine wn k3 (C.sk fun _ k3=>?_);refine L.mv f55 fun _ f55=>?_;refine L.va f55 (E.neqS f55 rfl rfl) fun _ f55=>?_;refine L.mv f55 fun _ f55=>?_;refine f55.splitN 20 rfl (fun h2 f55=>?_) (fun h2 f55=>?_)
  ·have h20:=h2;refine L.mv f55 (hw:=f55.y) fun _ f56=>?_;refine L.va f56 (E.eqlS f56 rfl rfl) (hw:=f56.y) fun _ f56=>?_;refine L.mv f56 (hw:=f56.y) fun _ f56=>?_;refine f56.splitD 23 rfl (fun h3 f56=>?_) (fun h3 f56=>?_)
   ·have h23:=h3;refine L.mv f56 (hw:=f56.y) fun _ f57=>?_;refine L.mv f57 (hw:=f57.y) fun _ f57=>?_;refine L.va f57 (E.lenL f57 U62 rfl) (hw:=f57.y) fun _ f57=>?_;refine L.va f57 (E.sub f57 rfl rfl (IntWalk.i64_in _ (by omega))) (hw:=f57.y) fun _ f57=>?_;refine L.va f57 (E.eql f57 rfl rfl) (hw:=f57.y) fun _ f57=>?_;refine L.va f57 (E.pickT f57 rfl rfl) (hw:=f57.y) fun _ f57=>?_;refine L.va f57 (E.not f57 rfl) (hw:=f57.y) fun _ f57=>?_;refine L.va f57 (E.pickT f57 rfl rfl) fun _ f57=>?_;refine L.mv f57 fun _ f57=>?_;refine f57.splitN 32 rfl (fun h4 f57=>?_) (fun h4 f57=>?_)
    ·have h32:=h4;refine L.mv f57 (hw:=f57.y) fun _ f58=>?_;refine L.cl f58 (rc2 f58 Tryz.call109) (cont_any p w3) ?_ (hw:=f58.y);rintro e w4 ⟨q,rfl⟩;refine ⟨_,rfl,fun _ f58=>?_⟩;have szw4:=q.size;replace HK:=HK.z q;replace LS:=LS.kept q;clear q;refine L.va f58 (E.pickT f58 rfl rfl) fun _ f58=>?_;refine wn k3 ?_;have f58:=f58.pk [3,4,5,11,12,13,14,15,16,17,18,19,20,21,22,23,24,25,26,27,28,29,30,31,32,33,34,35];refine f58.split 35 rfl (fun h5 f58=>?_) (fun h5 f58=>?_)
     ·have h35:=h5;refine C.condT f58 rfl ?_;refine C.sk fun _ k4=>?_;refine L.ag f58 fun _ f59=>?_;have f59:=f59.pk [2,3,4,5,11,12,13,14,15,16,17,18,19,20,21,22,23,24,25,26,27,28,29,30,31,32,33,34,35];refine wn k4 (wp_ret ?_); (try simp only [xt,xb]); refine C.ret f59 rfl rfl ?_;exact ⟨HK,by unfold filterB; rw [← hq,ok_at hx]; simp [okL,any35,h20,h23,h32,h35]⟩
     have h35:=h5;refine C.condF f58 rfl ?_;refine wp_skip (k2 _ _ ?_);have f58:=f58.pk [3,4,5,11,12,13,14,15,16,17,18,19,20,21,22,23,24,25,26,27,28,29,30,31,32,33,34,35];refine C.region ?_;refine L.va f58 (E.add f58 rfl rfl (IntWalk.i64_in _ (by omega))) fun _ f58=>?_;refine L.mv f58 fun _ f58=>?_;refine wpList_nil (hKL7 _ _ (gk8 - 1) ?_ ?_)
     ·omega
     exact ⟨k + 1,by omega,(ok_next hx (by rw [h23,any35] at h35; cases h35)).trans hq,HK,LS,f58.sub (sx (sx (sx (sx sn))))⟩
    have h32:=h4;refine L.run f57 (rest':=[]) (by kernel_rfl) fun _ f57=>?_;refine wn k3 ?_;have f57:=f57.sub (sv 35 (.bool false) (pkR f57 [3,4,5,11,12,13,14,15,16,17,18,19,20,21,22,23,24,25,26,27,28,29,30,31,32]));refine C.condF f57 rfl ?_;refine wp_skip (k2 _ _ ?_);have f57:=f57.pk [3,4,5,11,12,13,14,15,16,17,18,19,20,21,22,23,24,25,26,27,28,29,30,31,32,35];refine C.region ?_;refine L.va f57 (E.add f57 rfl rfl (IntWalk.i64_in _ (by omega))) fun _ f57=>?_;refine L.mv f57 fun _ f57=>?_;refine wpList_nil (hKL7 _ _ (gk8 - 1) ?_ ?_)
    ·omega
    exact ⟨k + 1,by omega,(ok_next hx (by simp [okL,h20,h23,h32])).trans hq,HK,LS,f57.sub (sx (sx (sx (sx sn))))⟩
   have h23:=h3;refine L.skip f56 f56.nT rfl (by decide) fun _ f56=>?_;refine L.skip f56 f56.nT rfl (by decide) fun _ f56=>?_;refine L.skip f56 f56.nT rfl (by decide) fun _ f56=>?_;refine L.skip f56 f56.nT rfl (by decide) fun _ f56=>?_;refine L.skip f56 f56.nT rfl (by decide) fun _ f56=>?_;refine L.va f56 (E.pickF f56 rfl rfl) (hw:=f56.y) fun _ f56=>?_;refine L.va f56 (E.not f56 rfl) (hw:=f56.y) fun _ f56=>?_;refine L.va f56 (E.pickT f56 rfl rfl) fun _ f56=>?_;refine L.mv f56 fun _ f56=>?_;refine L.mv f56 (hw:=f56.y) fun _ f56=>?_;refine L.cl f56 (rc2 f56 Tryz.call109) (cont_any p w3) ?_ (hw:=f56.y);rintro e w4 ⟨q,rfl⟩;refine ⟨_,rfl,fun _ f56=>?_⟩;have szw4:=q.size;replace HK:=HK.z q;replace LS:=LS.kept q;clear q;refine L.va f56 (E.pickT f56 rfl rfl) fun _ f56=>?_;refine wn k3 ?_;have f56:=f56.pk [3,4,5,11,12,13,14,15,16,17,18,19,20,21,22,23,24,25,26,27,28,29,30,31,32,33,34,35];refine f56.split 35 rfl (fun h6 f56=>?_) (fun h6 f56=>?_)
   ·have h35:=h6;refine C.condT f56 rfl ?_;refine C.sk fun _ k4=>?_;refine L.ag f56 fun _ f57=>?_;have f57:=f57.pk [2,3,4,5,11,12,13,14,15,16,17,18,19,20,21,22,23,24,25,26,27,28,29,30,31,32,33,34,35];refine wn k4 (wp_ret ?_); (try simp only [xt,xb]); refine C.ret f57 rfl rfl ?_;exact ⟨HK,by unfold filterB; rw [← hq,ok_at hx]; simp [okL,any35,h20,h23,h35]⟩
   have h35:=h6;refine C.condF f56 rfl ?_;refine wp_skip (k2 _ _ ?_);have f56:=f56.pk [3,4,5,11,12,13,14,15,16,17,18,19,20,21,22,23,24,25,26,27,28,29,30,31,32,33,34,35];refine C.region ?_;refine L.va f56 (E.add f56 rfl rfl (IntWalk.i64_in _ (by omega))) fun _ f56=>?_;refine L.mv f56 fun _ f56=>?_;refine wpList_nil (hKL7 _ _ (gk8 - 1) ?_ ?_)
   ·omega
   exact ⟨k + 1,by omega,(ok_next hx (by simp [okL,h20,h23,h35])).trans hq,HK,LS,f56.sub (sx (sx (sx (sx sn))))⟩
  have h20:=h2;refine L.run f55 (rest':=[]) (by kernel_rfl) fun _ f55=>?_;refine wn k3 ?_;have f55:=f55.sub (sv 31 (.bool false) (sv 32 (.bool false) (sv 35 (.bool false) (pkR f55 [3,4,5,11,12,13,14,15,16,17,18,19,20]))));refine C.condF f55 rfl ?_;refine wp_skip (k2 _ _ ?_);have f55:=f55.pk [3,4,5,11,12,13,14,15,16,17,18,19,20,31,32,35];refine C.region ?_;refine L.va f55 (E.add f55 rfl rfl (IntWalk.i64_in _ (by omega))) fun _ f55=>?_;refine L.mv f55 fun _ f55=>?_;refine wpList_nil (hKL7 _ _ (gk8 - 1) ?_ ?_)
  ·omega
  exact ⟨k + 1,by omega,(ok_next hx (by simp [okL,h20])).trans hq,HK,LS,f55.sub (sx (sx (sx (sx sn))))⟩
 have hend:=h1;refine C.condF f rfl ?_;refine wp_exit (k1 _ _ ?_);have f:=f.sub sn;refine C.sk fun _ k1=>?_;refine L.ag f fun _ f=>?_;have f:=f.pk [2];refine wn k1 (wp_ret ?_); (try simp only [xt,xb]); refine C.ret f rfl rfl ?_;exact ⟨HK,by unfold filterB; rw [← hq,List.drop_eq_nil_of_le (by omega)]; simp [okAll,h8]⟩
end Go.Proofs.YtekmhcdgmgbheaaGreatDoor
namespace Go.Proofs.YtekmhcdgmgbheaaGreatDoor
open Go.RowKit Go.Hub Go.Lib
def hd0 (l : List ByteArray) : ByteArray:=l.getD 0 ⟨#[]⟩
theorem hd_of {l : List ByteArray} {x : ByteArray} (h : l[0]? = some x) : hd0 l = x:=by simp [hd0,List.getD,h]
def matchB (f t : ByteArray) : Bool:=filterB f && nameB t && !(prefB (hd0 (levelsL t)) ⟨#[36]⟩ && (decide (hd0 (levelsL f) = ⟨#[43]⟩) || decide (hd0 (levelsL f) = ⟨#[35]⟩))) && goesB (levelsL f) (levelsL t)
theorem match_any (u v : ByteArray) (w : World) (G : Glob w) (hu : u.size ≤ 100000) (hv : v.size ≤ 100000) : Calls Tryz.prog 42 #[.string u,.string v] w (fun e w'=>Kept [] w w' ∧ e = .returned (.bool (matchB u v))):=by
 have HK : Kept [] w w:=Kept.refl [] w;refine C.enter Tryz.func42 rfl Tryz.ntmps42 rfl ?_;intro a f;have f : Fr 41 a [(0,.string u),(1,.string v)]:=f;refine C.sk fun _ k1=>?_;refine L.ag f fun _ f=>?_;refine wn k1 ?_;have f:=f.pk [0,1,4];refine wp_seq_k fun _ k1=>C.sk fun _ k2=>?_;refine L.mv f fun _ f=>?_;refine L.cl f (rc1 f Tryz.call80) (filter_any u w (G.kept HK) (by omega)) ?_;rintro e w1 ⟨q,rfl⟩;refine ⟨_,rfl,fun _ f=>?_⟩;have szw1:=q.size;replace HK:=HK.z q;clear q;refine L.va f (E.not f rfl) fun _ f=>?_;refine L.mv f fun _ f=>?_;refine f.splitNB 10 rfl (fun h0 f=>?_) (fun h0 f=>?_)
 ·have h10:=h0;refine L.run f (rest':=[]) (by kernel_rfl) fun _ f50=>?_;refine wn k2 ?_;have f50:=f50.sub (sv 14 (.bool true) (pkR f50 [0,1,4]));refine C.condT f50 rfl ?_;refine C.sk fun _ k3=>?_;refine L.ag f50 fun _ f50=>?_;have f50:=f50.pk [0,1,4];refine wn k3 (wp_ret ?_); (try simp only [xt,xb]); refine C.ret f50 rfl rfl ?_;exact ⟨HK,by unfold matchB; simp [h10]⟩
 have h10:=h0;refine L.mv f (hw:=f.y) fun _ f=>?_;refine L.cl f (rc1 f Tryz.call27) (name_any v w1 (G.kept HK) (by omega)) ?_ (hw:=f.y);rintro e w2 ⟨q,rfl⟩;refine ⟨_,rfl,fun _ f=>?_⟩;have szw2:=q.size;replace HK:=HK.z q;clear q;refine L.va f (E.not f rfl) (hw:=f.y) fun _ f=>?_;refine L.va f (E.pickF f rfl rfl) fun _ f=>?_;refine wn k2 ?_;have f:=f.pk [0,1,4,14];refine f.splitNB 14 rfl (fun h1 f=>?_) (fun h1 f=>?_)
 ·have h14:=h1;refine C.condT f rfl ?_;refine C.sk fun _ k2=>?_;refine L.ag f fun _ f50=>?_;have f50:=f50.pk [0,1,4];refine wn k2 (wp_ret ?_); (try simp only [xt,xb]); refine C.ret f50 rfl rfl ?_;exact ⟨HK,by unfold matchB; simp [h10,h14]⟩
 have h14:=h1;refine C.condF f rfl ?_;refine wp_skip (k1 _ _ ?_);have f:=f.pk [0,1,4];refine C.sk fun _ k1=>?_;refine L.mv f fun _ f=>?_;refine L.cl f (rc1 f Tryz.call81) (levels_any u w2 (G.kept HK) (by omega)) ?_;rintro e w3 ⟨q,Af,cf,rfl,LF,f,f50,f51⟩;refine ⟨_,rfl,fun _ f50=>?_⟩;have szw3:=q.size;replace HK:=HK.z q;clear q;refine L.mv f50 fun _ f50=>?_;refine L.cl f50 (rc1 f50 Tryz.call81) (levels_any v w3 (G.kept HK) (by omega)) ?_;rintro e w4 ⟨q,At,ct,rfl,LT,t2,t3,t4⟩;refine ⟨_,rfl,fun _ f50=>?_⟩;have szw4:=q.size;replace HK:=HK.z q;replace LF:=LF.kept q;clear q;refine L.ag f50 fun _ f50=>?_;refine L.ag f50 fun _ f50=>?_;refine wn k1 ?_;have f50:=f50.pk [4,5,6];refine wp_seq_k fun _ k1=>?_;obtain ⟨x,hx⟩ : ∃ x,(levelsL u)[0]? = some x:=⟨(levelsL u)[0]'(by omega),List.getElem?_eq_getElem _⟩;obtain ⟨bf,of,hAf⟩:=LF.addr (k:=0) (by omega);obtain ⟨y,hy⟩ : ∃ y,(levelsL v)[0]? = some y:=⟨(levelsL v)[0]'(by omega),List.getElem?_eq_getElem _⟩;obtain ⟨bt,ot,hAt⟩:=LT.addr (k:=0) (by omega);refine C.region ?_;refine L.mv f50 fun _ f50=>?_;refine L.va f50 (E.indexA f50 (by assumption) U62 Z8 rfl rfl (by omega) (by omega)) fun _ f50=>?_;refine L.va f50 (E.load f50 U9 rfl rfl (ss_cell0 LT hAt hy)) fun _ f50=>?_;refine L.cl f50 (rc1 f50 Tryz.call82) (hidden_any _ _) ?_;rintro e w4x ⟨rfl,rfl⟩;refine ⟨_,rfl,fun _ f50=>?_⟩;refine L.mv f50 fun _ f50=>?_
 refine f50.split 23 rfl (fun h2 f50=>?_) (fun h2 f50=>?_)
 ·have h23:=h2;refine L.mv f50 (hw:=f50.y) fun _ f51=>?_;refine L.va f51 (E.indexA f51 (by assumption) U62 Z8 rfl rfl (by omega) (by omega)) (hw:=f51.y) fun _ f51=>?_;refine L.va f51 (E.load f51 U9 rfl rfl (ss_cell0 LF hAf hx)) (hw:=f51.y) fun _ f51=>?_;refine L.va f51 (E.eqlS f51 rfl rfl) (hw:=f51.y) fun _ f51=>?_;refine L.mv f51 (hw:=f51.y) fun _ f51=>?_;refine f51.splitD 28 rfl (fun h3 f51=>?_) (fun h3 f51=>?_)
  ·have h28:=h3;refine L.run f51 (rest':=[]) (by kernel_rfl) fun _ f52=>?_;have f52:=f52.sub (sv 4 (.bool false) sn);refine wn k1 (wp_ret ?_); (try simp only [xt,xb]); refine C.ret f52 rfl rfl ?_;exact ⟨HK,by unfold matchB; rw [hd_of hx,hd_of hy]; simp [h10,h14,h23,h28]⟩
  have h28:=h3;refine L.mv f51 (hw:=f51.y) fun _ f51=>?_;refine L.va f51 (E.indexA f51 (by assumption) U62 Z8 rfl rfl (by omega) (by omega)) (hw:=f51.y) fun _ f51=>?_;refine L.va f51 (E.load f51 U9 rfl rfl (ss_cell0 LF hAf hx)) (hw:=f51.y) fun _ f51=>?_;refine L.va f51 (E.eqlS f51 rfl rfl) (hw:=f51.y) fun _ f51=>?_;refine L.va f51 (E.pickF f51 rfl rfl) (hw:=f51.y) fun _ f51=>?_;refine L.va f51 (E.pickT f51 rfl rfl) fun _ f51=>?_;refine L.va f51 (E.not f51 rfl) fun _ f51=>?_;refine L.mv f51 fun _ f51=>?_;refine f51.splitN 36 rfl (fun h4 f51=>?_) (fun h4 f51=>?_)
  ·have h36:=h4;refine L.mv f51 (hw:=f51.y) fun _ f52=>?_;refine L.mv f52 (hw:=f52.y) fun _ f52=>?_;refine L.cl f52 (rc2 f52 Tryz.call83) (goes_any (levelsL u) (levelsL v) Af At cf ct w4 LF LT f t2 (by omega) (by omega)) ?_ (hw:=f52.y);rintro e w5 ⟨q,rfl⟩;refine ⟨_,rfl,fun _ f52=>?_⟩;have szw5:=q.size;replace HK:=HK.z q;replace LF:=LF.kept q;replace LT:=LT.kept q;clear q;refine L.va f52 (E.pickT f52 rfl rfl) fun _ f52=>?_;refine L.ag f52 fun _ f52=>?_;have f52:=f52.pk [4];refine wn k1 (wp_ret ?_); (try simp only [xt,xb]); refine C.ret f52 rfl rfl ?_;exact ⟨HK,by unfold matchB; rw [hd_of hx,hd_of hy]; simp [h10,h14,h23,h28,h36]⟩
  have h36:=h4;refine L.run f51 (rest':=[]) (by kernel_rfl) fun _ f51=>?_;have f51:=f51.sub (sv 4 (.bool false) sn);refine wn k1 (wp_ret ?_); (try simp only [xt,xb]); refine C.ret f51 rfl rfl ?_;exact ⟨HK,by unfold matchB; rw [hd_of hx,hd_of hy]; simp [h10,h14,h23,h28,h36]⟩
 have h23:=h2;refine L.skip f50 f50.nT rfl (by decide) fun _ f50=>?_;refine L.skip f50 f50.nT rfl (by decide) fun _ f50=>?_;refine L.skip f50 f50.nT rfl (by decide) fun _ f50=>?_;refine L.skip f50 f50.nT rfl (by decide) fun _ f50=>?_;refine L.skip f50 f50.nT rfl (by decide) fun _ f50=>?_;refine L.skip f50 f50.nU rfl (by decide) fun _ f50=>?_;refine L.skip f50 f50.nU rfl (by decide) fun _ f50=>?_;refine L.skip f50 f50.nU rfl (by decide) fun _ f50=>?_;refine L.skip f50 f50.nU rfl (by decide) fun _ f50=>?_;refine L.skip f50 f50.nT rfl (by decide) fun _ f50=>?_;refine L.va f50 (E.pickF f50 rfl rfl) fun _ f50=>?_;refine L.va f50 (E.not f50 rfl) fun _ f50=>?_;refine L.mv f50 fun _ f50=>?_;refine L.mv f50 (hw:=f50.y) fun _ f50=>?_;refine L.mv f50 (hw:=f50.y) fun _ f50=>?_;refine L.cl f50 (rc2 f50 Tryz.call83) (goes_any (levelsL u) (levelsL v) Af At cf ct w4 LF LT f t2 (by omega) (by omega)) ?_ (hw:=f50.y);rintro e w5 ⟨q,rfl⟩;refine ⟨_,rfl,fun _ f=>?_⟩;have szw5:=q.size;replace HK:=HK.z q;replace LF:=LF.kept q;replace LT:=LT.kept q;clear q;refine L.va f (E.pickT f rfl rfl) fun _ f=>?_;refine L.ag f fun _ f=>?_;have f:=f.pk [4];refine wn k1 (wp_ret ?_); (try simp only [xt,xb]); refine C.ret f rfl rfl ?_;exact ⟨HK,by unfold matchB; rw [hd_of hx,hd_of hy]; simp [h10,h14,h23]⟩
end Go.Proofs.YtekmhcdgmgbheaaGreatDoor
namespace Go.Proofs.YtekmhcdgmgbheaaGreatDoor
open Go.RowKit Go.Hub Go.Lib
theorem Z9 (x0 : Int) (x1 : Int) (x2 : Int) : Instr.fill (fun i=>some (i * 1,1)) ((Array.range (3 * 1)).map fun j=>(Value.cells (.int .i64 0))[j % (Value.cells (.int .i64 0)).size]!) [(0,.int .i64 x0),(1,.int .i64 x1),(2,.int .i64 x2)] = some #[.int .i64 x0,.int .i64 x1,.int .i64 x2]:=by kernel_rfl
theorem Za : (Tryz.prog.info? 2).map (·.size) = some 1:=by kernel_rfl
theorem Zb : (Tryz.prog.info? 24).map (·.size) = some 3:=by kernel_rfl
def stampedB (s : Sp) : Bool:=decide (0 ≤ s.l) && decide (s.l ≤ 4611686018427387904) && decide (0 ≤ s.c) && decide (s.c ≤ 4611686018427387904) && decide (0 ≤ s.node) && decide (s.node < 16)
theorem E.gtrS {P : Program} {a : Act} {w : World} {n : Nat} {l : FL} {x y : Operand} {dst : Option Nat} {t u ty : TypeId} {ps : String} {af : Array Edge} {g : Option (Nat × Bool)} (f : Fr n a l) {s r : ByteArray} (hx : evl l x = some (.string s)) (hy : evl l y = some (.string r)) : (execOp a.eval ⟨dst,.binOp .gtr t x y u,ty,ps,af,g⟩).run P w = .ok (.value (.bool (decide (ltB r s)))) w:=by
  have e : (!(Op.bytesLess s.toList r.toList || s.toList == r.toList)) = decide (ltB r s):=by
    rw [Bool.eq_iff_iff,decide_eq_true_iff,ltB_iff,bytesLess_is];simp only [Bool.not_eq_true',Bool.or_eq_false_iff,decide_eq_false_iff_not,beq_eq_false_iff_ne]
    constructor
    · rintro ⟨h1, h2⟩
      exact Decidable.byContradiction fun h3=>h2 (List.le_antisymm (show s.toList ≤ r.toList from h3) (show r.toList ≤ s.toList from h1))
    intro h;exact ⟨List.lt_asymm h,fun e=>List.lt_irrefl _ (e ▸ h)⟩
  rw [← e];simp [execOp,f.ev hx,f.ev hy,eqGuard,binOp,Op.stringOp]
theorem nan64_any (x : Int) (w : World) : Calls Tryz.prog 112 #[.int .i64 x] w (fun e w'=>w = w' ∧ e = .returned (.bool false)):=by
 refine C.enter Tryz.func112 rfl Tryz.ntmps112 rfl ?_;intro a f;have f : Fr 6 a [(0,.int .i64 x)]:=f;refine C.sk fun _ k=>?_;refine L.ag f fun _ f=>?_;have f:=f.pk [0,2];refine wn k (C.sk fun _ k=>?_);refine L.mv f fun _ f=>?_;refine L.mv f fun _ f=>?_;refine L.va f (E.neq f rfl rfl) fun _ f=>?_;refine L.ag f fun _ f=>?_;have f:=f.pk [2];refine wn k (wp_ret ?_); (try simp only [xt,xb]); refine C.ret f rfl rfl ?_;exact ⟨rfl,by simp⟩
theorem cmp64_any (x y : Int) (w : World) : Calls Tryz.prog 85 #[.int .i64 x,.int .i64 y] w (fun e w'=>w = w' ∧ e = .returned (.int .i64 (cmpI x y))):=by
 refine C.enter Tryz.func85 rfl Tryz.ntmps85 rfl ?_;intro a f;have f : Fr 20 a [(0,.int .i64 x),(1,.int .i64 y)]:=f;refine C.sk fun _ k=>?_;refine L.ag f fun _ f=>?_;have f:=f.pk [0,1,4];refine wn k (C.sk fun _ k=>?_);refine L.mv f fun _ f=>?_;refine L.cl f (rc1 f Tryz.call112) (nan64_any _ _) ?_;rintro e wx ⟨rfl,rfl⟩;refine ⟨_,rfl,fun _ f=>?_⟩;refine L.ag f fun _ f=>?_;have f:=f.pk [0,1,4,5];refine wn k (C.sk fun _ k=>?_);refine L.mv f fun _ f=>?_;refine L.cl f (rc1 f Tryz.call112) (nan64_any _ _) ?_;rintro e wx ⟨rfl,rfl⟩;refine ⟨_,rfl,fun _ f=>?_⟩;refine L.ag f fun _ f=>?_;refine wn k ?_;have f:=f.pk [0,1,4,5,6];refine wp_seq_k fun _ k=>C.sk fun _ k1=>?_;refine L.mv f fun _ f=>?_;refine wn k1 ?_;have f:=f.pk [0,1,4,6,11];refine C.condF f rfl ?_;refine wp_skip (k _ _ ?_);have f:=f.pk [0,1,4,6];refine wp_seq_k fun _ k=>C.sk fun _ k1=>?_;refine L.mv f fun _ f=>?_;refine wn k1 ?_;have f:=f.pk [0,1,4,13];refine C.condF f rfl ?_;refine wp_skip (k _ _ ?_);have f:=f.pk [0,1,4];refine wp_seq_k fun _ k=>C.sk fun _ k1=>?_;refine L.mv f fun _ f=>?_;refine L.mv f fun _ f=>?_;refine L.va f (E.lss f rfl rfl) fun _ f=>?_;refine wn k1 ?_;have f:=f.pk [0,1,4,16];refine f.splitD 16 rfl (fun h0 f=>?_) (fun h0 f=>?_)
 ·refine C.condT f rfl ?_;refine C.sk fun _ k1=>?_;refine L.ag f fun _ f32=>?_;have f32:=f32.pk [0,1,4];refine wn k1 (wp_ret ?_); (try simp only [xt,xb]); refine C.ret f32 rfl rfl ?_;exact ⟨rfl,by simp [cmpI, *]⟩
 refine C.condF f rfl ?_;refine wp_skip (k _ _ ?_);have f:=f.pk [0,1,4];refine wp_seq_k fun _ k=>C.sk fun _ k1=>?_;refine L.mv f fun _ f=>?_;refine L.mv f fun _ f=>?_;refine L.va f (E.gtr f rfl rfl) fun _ f=>?_;refine wn k1 ?_;have f:=f.pk [4,19];refine f.splitD 19 rfl (fun h1 f=>?_) (fun h1 f=>?_)
 ·refine C.condT f rfl ?_;refine C.sk fun _ k1=>?_;refine L.ag f fun _ f32=>?_;have f32:=f32.pk [4];refine wn k1 (wp_ret ?_); (try simp only [xt,xb]); refine C.ret f32 rfl rfl ?_;exact ⟨rfl,by simp [cmpI, *]⟩
 refine C.condF f rfl ?_;refine wp_skip (k _ _ ?_);have f:=f.pk [4];refine C.sk fun _ k=>?_;refine L.ag f fun _ f=>?_;have f:=f.pk [4];refine wn k (wp_ret ?_); (try simp only [xt,xb]); refine C.ret f rfl rfl ?_;exact ⟨rfl,by simp [cmpI, *]⟩
theorem nanS_any (x : ByteArray) (w : World) : Calls Tryz.prog 104 #[.string x] w (fun e w'=>w = w' ∧ e = .returned (.bool false)):=by
 refine C.enter Tryz.func104 rfl Tryz.ntmps104 rfl ?_;intro a f;have f : Fr 6 a [(0,.string x)]:=f;refine C.sk fun _ k=>?_;refine L.ag f fun _ f=>?_;have f:=f.pk [0,2];refine wn k (C.sk fun _ k=>?_);refine L.mv f fun _ f=>?_;refine L.mv f fun _ f=>?_;refine L.va f (E.neqS f rfl rfl) fun _ f=>?_;refine L.ag f fun _ f=>?_;have f:=f.pk [2];refine wn k (wp_ret ?_); (try simp only [xt,xb]); refine C.ret f rfl rfl ?_;exact ⟨rfl,by simp⟩
theorem cmpS_any (x y : ByteArray) (w : World) : Calls Tryz.prog 70 #[.string x,.string y] w (fun e w'=>w = w' ∧ e = .returned (.int .i64 (cmpS x y))):=by
 refine C.enter Tryz.func70 rfl Tryz.ntmps70 rfl ?_;intro a f;have f : Fr 20 a [(0,.string x),(1,.string y)]:=f;refine C.sk fun _ k=>?_;refine L.ag f fun _ f=>?_;have f:=f.pk [0,1,4];refine wn k (C.sk fun _ k=>?_);refine L.mv f fun _ f=>?_;refine L.cl f (rc1 f Tryz.call104) (nanS_any _ _) ?_;rintro e wx ⟨rfl,rfl⟩;refine ⟨_,rfl,fun _ f=>?_⟩;refine L.ag f fun _ f=>?_;have f:=f.pk [0,1,4,5];refine wn k (C.sk fun _ k=>?_);refine L.mv f fun _ f=>?_;refine L.cl f (rc1 f Tryz.call104) (nanS_any _ _) ?_;rintro e wx ⟨rfl,rfl⟩;refine ⟨_,rfl,fun _ f=>?_⟩;refine L.ag f fun _ f=>?_;refine wn k ?_;have f:=f.pk [0,1,4,5,6];refine wp_seq_k fun _ k=>C.sk fun _ k1=>?_;refine L.mv f fun _ f=>?_;refine wn k1 ?_;have f:=f.pk [0,1,4,6,11];refine C.condF f rfl ?_;refine wp_skip (k _ _ ?_);have f:=f.pk [0,1,4,6];refine wp_seq_k fun _ k=>C.sk fun _ k1=>?_;refine L.mv f fun _ f=>?_;refine wn k1 ?_;have f:=f.pk [0,1,4,13];refine C.condF f rfl ?_;refine wp_skip (k _ _ ?_);have f:=f.pk [0,1,4];refine wp_seq_k fun _ k=>C.sk fun _ k1=>?_;refine L.mv f fun _ f=>?_;refine L.mv f fun _ f=>?_;refine L.va f (E.lssS f rfl rfl) fun _ f=>?_;refine wn k1 ?_;have f:=f.pk [0,1,4,16];refine f.split 16 rfl (fun h0 f=>?_) (fun h0 f=>?_)
 ·refine C.condT f rfl ?_;refine C.sk fun _ k1=>?_;refine L.ag f fun _ f32=>?_;have f32:=f32.pk [0,1,4];refine wn k1 (wp_ret ?_); (try simp only [xt,xb]); refine C.ret f32 rfl rfl ?_;exact ⟨rfl,by (try simp only [ltB] at h1); simp [cmpS,ltB, *]⟩
 refine C.condF f rfl ?_;refine wp_skip (k _ _ ?_);have f:=f.pk [0,1,4];refine wp_seq_k fun _ k=>C.sk fun _ k1=>?_;refine L.mv f fun _ f=>?_;refine L.mv f fun _ f=>?_;refine L.va f (E.gtrS f rfl rfl) fun _ f=>?_;refine wn k1 ?_;have f:=f.pk [4,19];refine f.splitD 19 rfl (fun h1 f=>?_) (fun h1 f=>?_)
 ·refine C.condT f rfl ?_;refine C.sk fun _ k1=>?_;refine L.ag f fun _ f32=>?_;have f32:=f32.pk [4];refine wn k1 (wp_ret ?_); (try simp only [xt,xb]); refine C.ret f32 rfl rfl ?_;exact ⟨rfl,by (try simp only [ltB] at h1); simp [cmpS,ltB, *]⟩
 refine C.condF f rfl ?_;refine wp_skip (k _ _ ?_);have f:=f.pk [4];refine C.sk fun _ k=>?_;refine L.ag f fun _ f=>?_;have f:=f.pk [4];refine wn k (wp_ret ?_); (try simp only [xt,xb]); refine C.ret f rfl rfl ?_;exact ⟨rfl,by (try simp only [ltB] at h1); simp [cmpS,ltB, *]⟩
theorem or3_any (x y z : Int) (b c : Nat) (w : World) (B : Blk w b 3 #[.int .i64 x,.int .i64 y,.int .i64 z]) : Calls Tryz.prog 84 #[.slice (some ⟨b,0,none⟩) 3 c] w (fun e w'=>w = w' ∧ e = .returned (.int .i64 (or3 x y z))):=by
 refine C.enter Tryz.func84 rfl Tryz.ntmps84 rfl ?_;intro a1 f;have f : Fr 18 a1 [(0,.slice (some ⟨b,0,none⟩) 3 c)]:=f;refine C.sk fun _ k1=>?_;refine L.ag f fun _ f=>?_;have f:=f.pk [0,2];refine wn k1 (C.sk fun _ k1=>?_);refine L.ag f fun _ f=>?_;refine wn k1 ?_;have f:=f.pk [0,2,3];refine wp_seq_k fun _ k1=>C.sk fun _ k2=>?_;refine L.mv f fun _ f=>?_;refine L.va f (E.lenL f U90 rfl) fun _ f=>?_;refine L.mv f fun _ f=>?_;refine wn k2 ?_;have f:=f.pk [2,3,6,7,8];refine wp_block ?_;refine C.loop (fun gk a W=>w = W ∧ ∃ k : Nat,k + gk = 3 ∧ (0 < k → x = 0) ∧ (1 < k → y = 0) ∧ (2 < k → z = 0) ∧ Fr 18 a [(3,.int .i64 0),(6,.slice (some ⟨b,0,none⟩) 3 c),(7,.int .i64 3),(8,.int .i64 k)]) (3) ?_ ?_
 ·exact ⟨rfl,0,rfl,by omega,by omega,by omega,f.sub (sx (sx (sx (sx sn))))⟩
 intro gk5 _ w1 hI KL4 hKL4;obtain ⟨hW,k,hk,hx,hy,hz,f27⟩:=hI;subst hW
 try clear f
 have hcell : k < 3 → w.cell? ⟨b,0 + (Int.toNat (k : Int)) * 1,none⟩ = some (.int .i64 (if k = 0 then x else if k = 1 then y else z)):=fun h=>by
  rcases (show k = 0 ∨ k = 1 ∨ k = 2 by omega) with rfl | rfl | rfl
  ·exact B.cell_ rfl
  ·exact B.cell_ rfl
  exact B.cell_ rfl
 refine C.sk fun _ k2=>?_;refine L.va f27 (E.lss f27 rfl rfl) fun _ f=>?_;refine wn k2 ?_;have f:=f.pk [3,6,7,8,9];refine wp_seq_k fun _ k2=>?_;refine f.splitD 9 rfl (fun h0 f=>?_) (fun h0 f=>?_)
 ·refine C.condT f rfl ?_;refine wp_skip (k2 _ _ ?_);have f27:=f.pk [3,6,7,8,9];refine wp_seq_k fun _ k2=>?_;refine wp_block ?_;refine C.sk fun _ k3=>?_;refine L.va f27 (E.indexA f27 (by rfl) U90 Z0 rfl rfl (by omega) (by omega)) fun _ f27=>?_;refine L.va f27 (E.load f27 U3 rfl rfl (hcell (by omega))) fun _ f27=>?_;refine L.ag f27 fun _ f27=>?_;have f27:=f27.pk [3,5,6,7,8,9,10,11];refine wn k3 (C.sk fun _ k3=>?_);refine L.mv f27 fun _ f27=>?_;refine L.mv f27 fun _ f27=>?_;refine L.va f27 (E.neq f27 rfl rfl) fun _ f27=>?_;refine wn k3 ?_;have f27:=f27.pk [3,5,6,7,8,9,10,11,12,13,14];refine f27.splitN 14 rfl (fun h1 f27=>?_) (fun h1 f27=>?_)
  ·refine C.condT f27 rfl ?_;refine C.sk fun _ k3=>?_;refine L.mv f27 fun _ f28=>?_;refine L.ag f28 fun _ f28=>?_;have f28:=f28.pk [2,3,5,6,7,8,9,10,11,12,13,14,15];refine wn k3 (wp_ret ?_); (try simp only [xt,xb]); refine C.ret f28 rfl rfl ?_;exact ⟨rfl,by rcases (show k = 0 ∨ k = 1 ∨ k = 2 by omega) with rfl | rfl | rfl <;> simp_all [or3]⟩
  refine C.condF f27 rfl ?_;refine wp_skip (k2 _ _ ?_);have f27:=f27.pk [3,5,6,7,8,9,10,11,12,13,14];refine C.region ?_;refine L.va f27 (E.add f27 rfl rfl (IntWalk.i64_in _ (by omega))) fun _ f27=>?_;refine L.mv f27 fun _ f27=>?_;refine wpList_nil (hKL4 _ _ (gk5 - 1) ?_ ?_)
  ·omega
  exact ⟨rfl,k + 1,by omega,fun _=>by by_cases hk0 : k = 0 <;> simp [hk0] at h1 <;> first | exact h1 | exact hx (by omega),fun _=>by by_cases hk1 : k = 1 <;> simp [hk1] at h1 <;> first | exact h1 | exact hy (by omega),fun _=>by have hk2 : k = 2:=(by omega); simpa [hk2] using h1,f27.sub (sx (sx (sx (sx sn))))⟩
 refine C.condF f rfl ?_;refine wp_exit (k1 _ _ ?_);have f:=f.pk [3];refine C.sk fun _ k1=>?_;refine L.mv f fun _ f=>?_;refine L.ag f fun _ f=>?_;have f:=f.pk [2];refine wn k1 (wp_ret ?_); (try simp only [xt,xb]); refine C.ret f rfl rfl ?_;exact ⟨rfl,by unfold or3; rw [if_pos (hx (by omega)),if_pos (hy (by omega)),hz (by omega)]⟩
theorem near_any (v : Int) (w : World) : Calls Tryz.prog 86 #[.int .i64 v] w (fun e w'=>w = w' ∧ e = .returned (.int .i64 (nearI v))):=by
 refine C.enter Tryz.func86 rfl Tryz.ntmps86 rfl ?_;intro a f;have f : Fr 6 a [(0,.int .i64 v)]:=f;refine C.sk fun _ k=>?_;refine L.ag f fun _ f=>?_;have f:=f.pk [0,2];refine wn k (C.sk fun _ k=>?_);refine L.mv f fun _ f=>?_;refine L.va f (E.max f rfl rfl) fun _ f=>?_;refine L.va f (E.min f rfl rfl) fun _ f=>?_;refine L.ag f fun _ f=>?_;have f:=f.pk [2];refine wn k (wp_ret ?_); (try simp only [xt,xb]); refine C.ret f rfl rfl ?_;exact ⟨rfl,rfl⟩
theorem Less_any (p q : Sp) (w : World) : Calls Tryz.prog 43 #[.agg (scell p).toArray,.agg (scell q).toArray] w (fun e w'=>Kept [] w w' ∧ e = .returned (.bool (decide (ltS p q)))):=by
 have HK : Kept [] w w:=Kept.refl [] w;refine C.enter Tryz.func43 rfl Tryz.ntmps43 rfl ?_;intro a f;have f : Fr 27 a [(0,.agg (scell p).toArray),(1,.agg (scell q).toArray)]:=f;refine C.sk fun _ k=>?_;refine L.box f wantedN (by decide) rfl rfl fun _ w1 g0 N f=>?_;obtain ⟨Bg0,q1,log0,ltg0,szw1⟩:=N.al;have frg0:=HK.lo log0;replace HK:=HK.z q1;clear N q1;refine L.box f wantedN (by decide) rfl rfl fun _ w2 g1 N f=>?_;obtain ⟨Bg1,q1,log1,ltg1,szw2⟩:=N.al;have frg1:=HK.lo log1;have neg0_g1 : g0 ≠ g1:=by have:=Bg0.lt; omega
 replace HK:=HK.z q1;replace Bg0:=Bg0.z q1;clear N q1;refine L.ag f fun _ f=>?_;refine wn k ?_;have f:=f.pk [2,3,4];refine wp_seq_k fun _ k=>?_;refine R.begin (S:=fun W=>Kept [] w2 W) (by kernel_rfl) (by exact (Kept.refl _ _).drewN 1) ?_;have s : Kept [] w2 (w2.drewN 1):=(Kept.refl _ _).drewN 1;have hd1 : Kept [] w2 (w2.drewN 1):=(Kept.refl _ _).drewN 1;obtain ⟨w3,hww3⟩ : ∃ W,W = w2.drewN 1:=⟨_,rfl⟩;rw [← hww3] at s hd1 ⊢;clear hww3;have szw3:=s.size;refine R.p 0 f rfl s (E.fa 0 f U24 rfl Za) fun _ f=>?_;refine R.t 1 f rfl s (fun W hW=>(E.load f U2 rfl rfl ((Bg0.z hW).cl rfl))) fun _ f=>?_;refine R.p 3 f rfl s (E.fa 0 f U24 rfl Za) fun _ f=>?_;refine R.t 4 f rfl s (fun W hW=>(E.load f U2 rfl rfl ((Bg1.z hW).cl rfl))) fun _ f=>?_;refine R.p 7 f rfl s (E.fa 1 f U24 rfl Za) fun _ f=>?_;refine R.t 8 f rfl s (fun W hW=>(E.load f U2 rfl rfl ((Bg0.z hW).cl rfl))) fun _ f=>?_;refine R.p 10 f rfl s (E.fa 1 f U24 rfl Za) fun _ f=>?_;refine R.t 11 f rfl s (fun W hW=>(E.load f U2 rfl rfl ((Bg1.z hW).cl rfl))) fun _ f=>?_;refine R.p 14 f rfl s (E.fa 2 f U24 rfl Z0) fun _ f=>?_;refine R.t 15 f rfl s (fun W hW=>(E.load f U3 rfl rfl ((Bg0.z hW).cl rfl))) fun _ f=>?_;refine R.p 16 f rfl s (E.fa 2 f U24 rfl Z0) fun _ f=>?_;refine R.t 17 f rfl s (fun W hW=>(E.load f U3 rfl rfl ((Bg1.z hW).cl rfl))) fun _ f=>?_;refine R.cl 2 f rfl (rc1 f Tryz.call86) (near_any _ _) ?_;rintro e w3x ⟨rfl,rfl⟩;refine ⟨_,rfl,s,fun _ f=>?_⟩
 refine R.cl 5 f rfl (rc1 f Tryz.call86) (near_any _ _) ?_;rintro e w3x ⟨rfl,rfl⟩;refine ⟨_,rfl,s,fun _ f=>?_⟩;refine R.cl 6 f rfl (rc2 f Tryz.call85) (cmp64_any _ _ _) ?_;rintro e w3x ⟨rfl,rfl⟩;refine ⟨_,rfl,s,fun _ f=>?_⟩;refine R.cl 9 f rfl (rc1 f Tryz.call86) (near_any _ _) ?_;rintro e w3x ⟨rfl,rfl⟩;refine ⟨_,rfl,s,fun _ f=>?_⟩;refine R.cl 12 f rfl (rc1 f Tryz.call86) (near_any _ _) ?_;rintro e w3x ⟨rfl,rfl⟩;refine ⟨_,rfl,s,fun _ f=>?_⟩;refine R.cl 13 f rfl (rc2 f Tryz.call85) (cmp64_any _ _ _) ?_;rintro e w3x ⟨rfl,rfl⟩;refine ⟨_,rfl,s,fun _ f=>?_⟩;refine R.cl 18 f rfl (rc2 f Tryz.call87) (cmp_any _ _ _) ?_;rintro e w3x ⟨rfl,rfl⟩;refine ⟨_,rfl,s,fun _ f=>?_⟩;refine R.on 19 ?_;refine O.buildSlice f rfl wantedN (by decide) (parts3 f rfl rfl rfl) U90 Z1 rfl rfl (Z9 _ _ _) (fun _ hk=>s.trans hk (by simp)) fun _ w4 g3 N hSn f=>?_;obtain ⟨Bg3,q1,log3,ltg3,szw4⟩:=N.al;have szSw4:=s.size;clear N q1;replace s:=hSn;clear hSn;refine R.cl 20 f rfl (rc1 f Tryz.call84) (or3_any _ _ _ _ _ _ Bg3) ?_;rintro e w4x ⟨rfl,rfl⟩;refine ⟨_,rfl,s,fun _ f=>?_⟩;refine R.p 21 f rfl s (E.lss f rfl rfl) fun _ f=>?_;refine R.p 22 f rfl s (E.assign f rfl) fun _ f=>?_;have szw4r:=s.size;replace HK:=HK.z s;replace Bg0:=Bg0.z s;replace Bg1:=Bg1.z s;clear s;refine R.done (by kernel_rfl) (k _ _ ?_);have f:=f.pk [4];refine wp_ret ?_; (try simp only [xt,xb]); refine C.ret f rfl rfl ?_;exact ⟨HK,by rw [less_is]⟩
theorem Newer_any (p q : Cp) (w : World) : Calls Tryz.prog 35 #[.agg (pcell p).toArray,.agg (pcell q).toArray] w (fun e w'=>Kept [] w w' ∧ e = .returned (.bool (newerB p.x q.x))):=by
 have HK : Kept [] w w:=Kept.refl [] w;refine C.enter Tryz.func35 rfl Tryz.ntmps35 rfl ?_;intro a f;have f : Fr 22 a [(0,.agg (pcell p).toArray),(1,.agg (pcell q).toArray)]:=f;refine C.sk fun _ k=>?_;refine L.box f wantedN (by decide) rfl rfl fun _ w1 g0 N f=>?_;obtain ⟨Bg0,q1,log0,ltg0,szw1⟩:=N.al;have frg0:=HK.lo log0;replace HK:=HK.z q1;clear N q1;refine L.box f wantedN (by decide) rfl rfl fun _ w2 g1 N f=>?_;obtain ⟨Bg1,q1,log1,ltg1,szw2⟩:=N.al;have frg1:=HK.lo log1;have neg0_g1 : g0 ≠ g1:=by have:=Bg0.lt; omega
 replace HK:=HK.z q1;replace Bg0:=Bg0.z q1;clear N q1;refine L.ag f fun _ f=>?_;refine wn k ?_;have f:=f.pk [2,3,4];refine wp_seq_k fun _ k=>?_;refine wp_block ?_;refine C.sk fun _ k1=>?_;refine L.fa 3 f U48 rfl Zb fun _ f=>?_;refine L.va f (E.loadR f U24 rfl Zb rfl ((Bg1.part 3 (scell q.x.s) rfl)) rfl) fun _ f=>?_;refine L.fa 3 f U48 rfl Zb fun _ f=>?_;refine L.va f (E.loadR f U24 rfl Zb rfl ((Bg0.part 3 (scell p.x.s) rfl)) rfl) fun _ f=>?_;refine L.cl f (rc2 f Tryz.call43) (Less_any q.x.s p.x.s _) ?_;rintro e w3 ⟨q1,rfl⟩;refine ⟨_,rfl,fun _ f=>?_⟩;have szw3:=q1.size;replace HK:=HK.z q1;replace Bg0:=Bg0.z q1;replace Bg1:=Bg1.z q1;clear q1;refine L.ag f fun _ f=>?_;refine wn k1 ?_;have f:=f.pk [2,3,4,5];refine f.splitD 5 rfl (fun h0 f=>?_) (fun h0 f=>?_)
 ·refine C.condT f rfl ?_;refine C.sk fun _ k1=>?_;refine L.ag f fun _ f30=>?_;have f30:=f30.pk [2,3,4];refine wn k1 (wp_ret ?_); (try simp only [xt,xb]); refine C.ret f30 rfl rfl ?_;exact ⟨HK,by simp [newerB, *]⟩
 refine C.condF f rfl ?_;refine C.sk fun _ k1=>?_;refine L.fa 3 f U48 rfl Zb fun _ f=>?_;refine L.va f (E.loadR f U24 rfl Zb rfl ((Bg0.part 3 (scell p.x.s) rfl)) rfl) fun _ f=>?_;refine L.fa 3 f U48 rfl Zb fun _ f=>?_;refine L.va f (E.loadR f U24 rfl Zb rfl ((Bg1.part 3 (scell q.x.s) rfl)) rfl) fun _ f=>?_;refine L.cl f (rc2 f Tryz.call43) (Less_any p.x.s q.x.s _) ?_;rintro e w4 ⟨q1,rfl⟩;refine ⟨_,rfl,fun _ f=>?_⟩;have szw4:=q1.size;replace HK:=HK.z q1;replace Bg0:=Bg0.z q1;replace Bg1:=Bg1.z q1;clear q1;refine L.ag f fun _ f=>?_;refine wn k1 ?_;have f:=f.pk [2,3,4,11];refine f.splitD 11 rfl (fun h1 f=>?_) (fun h1 f=>?_)
 ·refine C.condT f rfl ?_;refine C.sk fun _ k1=>?_;refine L.ag f fun _ f30=>?_;have f30:=f30.pk [2,3,4];refine wn k1 (wp_ret ?_); (try simp only [xt,xb]); refine C.ret f30 rfl rfl ?_;exact ⟨HK,by simp [newerB, *]⟩
 refine C.condF f rfl ?_;refine wp_skip (k _ _ ?_);have f:=f.pk [2,3,4];refine C.sk fun _ k=>?_;refine L.fa 0 f U48 rfl Z3 fun _ f=>?_;refine L.va f (E.loadR f U46 rfl Z3 rfl ((Bg1.part 0 (dcell q.x.d) rfl)) rfl) fun _ f=>?_;refine L.fa 0 f U48 rfl Z3 fun _ f=>?_;refine L.va f (E.loadR f U46 rfl Z3 rfl ((Bg0.part 0 (dcell p.x.d) rfl)) rfl) fun _ f=>?_;refine L.cl f (rc2 f Tryz.call73) (Before_any q.x.d p.x.d _) ?_;rintro e w5 ⟨q1,rfl⟩;refine ⟨_,rfl,fun _ f=>?_⟩;have szw5:=q1.size;replace HK:=HK.z q1;replace Bg0:=Bg0.z q1;replace Bg1:=Bg1.z q1;clear q1;refine L.ag f fun _ f=>?_;have f:=f.pk [4];refine wn k (wp_ret ?_); (try simp only [xt,xb]); refine C.ret f rfl rfl ?_;exact ⟨HK,by simp [newerB, *]⟩
theorem held_any (v : Int) (w : World) : Calls Tryz.prog 88 #[.int .i64 v] w (fun e w'=>w = w' ∧ e = .returned (.int .i64 (nearI v))):=by
 refine C.enter Tryz.func88 rfl Tryz.ntmps88 rfl ?_;intro a f;have f : Fr 6 a [(0,.int .i64 v)]:=f;refine C.sk fun _ k=>?_;refine L.ag f fun _ f=>?_;have f:=f.pk [0,2];refine wn k (C.sk fun _ k=>?_);refine L.mv f fun _ f=>?_;refine L.va f (E.max f rfl rfl) fun _ f=>?_;refine L.va f (E.min f rfl rfl) fun _ f=>?_;refine L.ag f fun _ f=>?_;have f:=f.pk [2];refine wn k (wp_ret ?_); (try simp only [xt,xb]); refine C.ret f rfl rfl ?_;exact ⟨rfl,rfl⟩
theorem LessR_any (p q : Sp) (w : World) : Calls Tryz.prog 44 #[.agg (scell p).toArray,.agg (scell q).toArray] w (fun e w'=>Kept [] w w' ∧ e = .returned (.bool (decide (ltS p q)))):=by
 have HK : Kept [] w w:=Kept.refl [] w;refine C.enter Tryz.func44 rfl Tryz.ntmps44 rfl ?_;intro a f;have f : Fr 36 a [(0,.agg (scell p).toArray),(1,.agg (scell q).toArray)]:=f;refine C.sk fun _ k=>?_;refine L.box f wantedN (by decide) rfl rfl fun _ w1 g0 N f=>?_;obtain ⟨Bg0,q1,log0,ltg0,szw1⟩:=N.al;have frg0:=HK.lo log0;replace HK:=HK.z q1;clear N q1;refine L.box f wantedN (by decide) rfl rfl fun _ w2 g1 N f=>?_;obtain ⟨Bg1,q1,log1,ltg1,szw2⟩:=N.al;have frg1:=HK.lo log1;have neg0_g1 : g0 ≠ g1:=by have:=Bg0.lt; omega
 replace HK:=HK.z q1;replace Bg0:=Bg0.z q1;clear N q1;refine L.ag f fun _ f=>?_;refine wn k ?_;have f:=f.pk [2,3,4];refine wp_seq_k fun _ k=>?_;refine R.begin (S:=fun W=>Kept [] w2 W) (by kernel_rfl) (by exact (Kept.refl _ _).drewN 1) ?_;have s : Kept [] w2 (w2.drewN 1):=(Kept.refl _ _).drewN 1;have hd1 : Kept [] w2 (w2.drewN 1):=(Kept.refl _ _).drewN 1;obtain ⟨w3,hww3⟩ : ∃ W,W = w2.drewN 1:=⟨_,rfl⟩;rw [← hww3] at s hd1 ⊢;clear hww3;have szw3:=s.size;refine R.p 0 f rfl s (E.fa 0 f U24 rfl Za) fun _ f=>?_;refine R.t 1 f rfl s (fun W hW=>(E.load f U2 rfl rfl ((Bg0.z hW).cl rfl))) fun _ f=>?_;refine R.p 3 f rfl s (E.fa 0 f U24 rfl Za) fun _ f=>?_;refine R.t 4 f rfl s (fun W hW=>(E.load f U2 rfl rfl ((Bg1.z hW).cl rfl))) fun _ f=>?_;refine R.cl 2 f rfl (rc1 f Tryz.call88) (held_any _ _) ?_;rintro e w3x ⟨rfl,rfl⟩;refine ⟨_,rfl,s,fun _ f=>?_⟩;refine R.cl 5 f rfl (rc1 f Tryz.call88) (held_any _ _) ?_;rintro e w3x ⟨rfl,rfl⟩;refine ⟨_,rfl,s,fun _ f=>?_⟩;refine R.p 6 f rfl s (E.assign f rfl) fun _ f=>?_;refine R.p 7 f rfl s (E.assign f rfl) fun _ f=>?_;have szw3r:=s.size;replace HK:=HK.z s;replace Bg0:=Bg0.z s;replace Bg1:=Bg1.z s;clear s;refine R.done (by kernel_rfl) (k _ _ ?_);have f:=f.pk [2,3,4,5,6];refine wp_seq_k fun _ k=>C.sk fun _ k1=>?_;refine L.mv f fun _ f=>?_;refine L.mv f fun _ f=>?_;refine L.va f (E.neq f rfl rfl) fun _ f=>?_;refine wn k1 ?_;have f:=f.pk [2,3,4,5,6,15]
 refine f.splitN 15 rfl (fun h0 f=>?_) (fun h0 f=>?_)
 ·have h15:=h0;refine C.condT f rfl ?_;refine C.sk fun _ k1=>?_;refine L.mv f fun _ f43=>?_;refine L.mv f43 fun _ f43=>?_;refine L.va f43 (E.lss f43 rfl rfl) fun _ f43=>?_;refine L.ag f43 fun _ f43=>?_;have f43:=f43.pk [2,3,4,5,6];refine wn k1 (wp_ret ?_); (try simp only [xt,xb]); refine C.ret f43 rfl rfl ?_;exact ⟨HK,by congr 2; exact decide_eq_decide.2 (by unfold ltS; omega)⟩
 have h15:=h0;refine C.condF f rfl ?_;refine wp_skip (k _ _ ?_);have f:=f.pk [2,3,4,5,6];refine wp_seq_k fun _ k=>?_;refine R.begin (S:=fun W=>Kept [] w3 W) (by kernel_rfl) (by exact (Kept.refl _ _).drewN 1) ?_;have s : Kept [] w3 (w3.drewN 1):=(Kept.refl _ _).drewN 1;have hd4 : Kept [] w3 (w3.drewN 1):=(Kept.refl _ _).drewN 1;obtain ⟨w4,hww4⟩ : ∃ W,W = w3.drewN 1:=⟨_,rfl⟩;rw [← hww4] at s hd4 ⊢;clear hww4;have szw4:=s.size;refine R.p 0 f rfl s (E.fa 1 f U24 rfl Za) fun _ f=>?_;refine R.t 1 f rfl s (fun W hW=>(E.load f U2 rfl rfl ((Bg0.z hW).cl rfl))) fun _ f=>?_;refine R.p 3 f rfl s (E.fa 1 f U24 rfl Za) fun _ f=>?_;refine R.t 4 f rfl s (fun W hW=>(E.load f U2 rfl rfl ((Bg1.z hW).cl rfl))) fun _ f=>?_;refine R.cl 2 f rfl (rc1 f Tryz.call88) (held_any _ _) ?_;rintro e w4x ⟨rfl,rfl⟩;refine ⟨_,rfl,s,fun _ f=>?_⟩;refine R.cl 5 f rfl (rc1 f Tryz.call88) (held_any _ _) ?_;rintro e w4x ⟨rfl,rfl⟩;refine ⟨_,rfl,s,fun _ f=>?_⟩;refine R.p 6 f rfl s (E.assign f rfl) fun _ f=>?_;refine R.p 7 f rfl s (E.assign f rfl) fun _ f=>?_;have szw4r:=s.size;replace HK:=HK.z s;replace Bg0:=Bg0.z s;replace Bg1:=Bg1.z s;clear s;refine R.done (by kernel_rfl) (k _ _ ?_);have f:=f.pk [2,3,4,5,6];refine wp_seq_k fun _ k=>C.sk fun _ k1=>?_;refine L.mv f fun _ f=>?_;refine L.mv f fun _ f=>?_;refine L.va f (E.neq f rfl rfl) fun _ f=>?_;refine wn k1 ?_;have f:=f.pk [2,3,4,5,6,27]
 refine f.splitN 27 rfl (fun h1 f=>?_) (fun h1 f=>?_)
 ·have h27:=h1;refine C.condT f rfl ?_;refine C.sk fun _ k1=>?_;refine L.mv f fun _ f43=>?_;refine L.mv f43 fun _ f43=>?_;refine L.va f43 (E.lss f43 rfl rfl) fun _ f43=>?_;refine L.ag f43 fun _ f43=>?_;have f43:=f43.pk [2,3,4];refine wn k1 (wp_ret ?_); (try simp only [xt,xb]); refine C.ret f43 rfl rfl ?_;exact ⟨HK,by congr 2; exact decide_eq_decide.2 (by unfold ltS; omega)⟩
 have h27:=h1;refine C.condF f rfl ?_;refine wp_skip (k _ _ ?_);have f:=f.pk [2,3,4];refine C.sk fun _ k=>?_;refine L.fa 2 f U24 rfl Z0 fun _ f=>?_;refine L.va f (E.load f U3 rfl rfl ((Bg0).cl rfl)) fun _ f=>?_;refine L.fa 2 f U24 rfl Z0 fun _ f=>?_;refine L.va f (E.load f U3 rfl rfl ((Bg1).cl rfl)) fun _ f=>?_;refine L.va f (E.lss f rfl rfl) fun _ f=>?_;refine L.ag f fun _ f=>?_;have f:=f.pk [4];refine wn k (wp_ret ?_); (try simp only [xt,xb]); refine C.ret f rfl rfl ?_;exact ⟨HK,by congr 2; exact decide_eq_decide.2 (by unfold ltS; omega)⟩
theorem NewerR_any (p q : Cp) (w : World) : Calls Tryz.prog 79 #[.agg (pcell p).toArray,.agg (pcell q).toArray] w (fun e w'=>Kept [] w w' ∧ e = .returned (.bool (newerB p.x q.x))):=by
 have HK : Kept [] w w:=Kept.refl [] w;refine C.enter Tryz.func79 rfl Tryz.ntmps79 rfl ?_;intro a f;have f : Fr 23 a [(0,.agg (pcell p).toArray),(1,.agg (pcell q).toArray)]:=f;refine C.sk fun _ k=>?_;refine L.box f wantedN (by decide) rfl rfl fun _ w1 g0 N f=>?_;obtain ⟨Bg0,q1,log0,ltg0,szw1⟩:=N.al;have frg0:=HK.lo log0;replace HK:=HK.z q1;clear N q1;refine L.box f wantedN (by decide) rfl rfl fun _ w2 g1 N f=>?_;obtain ⟨Bg1,q1,log1,ltg1,szw2⟩:=N.al;have frg1:=HK.lo log1;have neg0_g1 : g0 ≠ g1:=by have:=Bg0.lt; omega
 replace HK:=HK.z q1;replace Bg0:=Bg0.z q1;clear N q1;refine L.ag f fun _ f=>?_;refine wn k ?_;have f:=f.pk [2,3,4];refine wp_seq_k fun _ k=>C.sk fun _ k1=>?_;refine L.fa 3 f U48 rfl Zb fun _ f=>?_;refine L.va f (E.loadR f U24 rfl Zb rfl ((Bg1.part 3 (scell q.x.s) rfl)) rfl) fun _ f=>?_;refine L.fa 3 f U48 rfl Zb fun _ f=>?_;refine L.va f (E.loadR f U24 rfl Zb rfl ((Bg0.part 3 (scell p.x.s) rfl)) rfl) fun _ f=>?_;refine L.cl f (rc2 f Tryz.call44) (LessR_any q.x.s p.x.s _) ?_;rintro e w3 ⟨q1,rfl⟩;refine ⟨_,rfl,fun _ f=>?_⟩;have szw3:=q1.size;replace HK:=HK.z q1;replace Bg0:=Bg0.z q1;replace Bg1:=Bg1.z q1;clear q1;refine wn k1 ?_;have f:=f.pk [2,3,4,9];refine f.splitD 9 rfl (fun h0 f=>?_) (fun h0 f=>?_)
 ·refine C.condT f rfl ?_;refine C.sk fun _ k1=>?_;refine L.ag f fun _ f30=>?_;have f30:=f30.pk [2,3,4];refine wn k1 (wp_ret ?_); (try simp only [xt,xb]); refine C.ret f30 rfl rfl ?_;exact ⟨HK,by simp [newerB, *]⟩
 refine C.condF f rfl ?_;refine wp_skip (k _ _ ?_);have f:=f.pk [2,3,4];refine C.sk fun _ k=>?_;refine L.fa 3 f U48 rfl Zb fun _ f=>?_;refine L.va f (E.loadR f U24 rfl Zb rfl ((Bg0.part 3 (scell p.x.s) rfl)) rfl) fun _ f=>?_;refine L.fa 3 f U48 rfl Zb fun _ f=>?_;refine L.va f (E.loadR f U24 rfl Zb rfl ((Bg1.part 3 (scell q.x.s) rfl)) rfl) fun _ f=>?_;refine L.cl f (rc2 f Tryz.call44) (LessR_any p.x.s q.x.s _) ?_;rintro e w4 ⟨q1,rfl⟩;refine ⟨_,rfl,fun _ f=>?_⟩;have szw4:=q1.size;replace HK:=HK.z q1;replace Bg0:=Bg0.z q1;replace Bg1:=Bg1.z q1;clear q1;refine L.va f (E.not f rfl) fun _ f=>?_;refine L.mv f fun _ f=>?_;refine f.splitN 16 rfl (fun h1 f=>?_) (fun h1 f=>?_)
 ·refine L.fa 0 f U48 rfl Z3 (hw:=f.y) fun _ f30=>?_;refine L.va f30 (E.loadR f30 U46 rfl Z3 rfl ((Bg1.part 0 (dcell q.x.d) rfl)) rfl) (hw:=f30.y) fun _ f30=>?_;refine L.fa 0 f30 U48 rfl Z3 (hw:=f30.y) fun _ f30=>?_;refine L.va f30 (E.loadR f30 U46 rfl Z3 rfl ((Bg0.part 0 (dcell p.x.d) rfl)) rfl) (hw:=f30.y) fun _ f30=>?_;refine L.cl f30 (rc2 f30 Tryz.call108) (BeforeR_any q.x.d p.x.d _) ?_ (hw:=f30.y);rintro e w5 ⟨q1,rfl⟩;refine ⟨_,rfl,fun _ f30=>?_⟩;have szw5:=q1.size;replace HK:=HK.z q1;replace Bg0:=Bg0.z q1;replace Bg1:=Bg1.z q1;clear q1;refine L.va f30 (E.pickT f30 rfl rfl) fun _ f30=>?_;refine L.ag f30 fun _ f30=>?_;have f30:=f30.pk [4];refine wn k (wp_ret ?_); (try simp only [xt,xb]); refine C.ret f30 rfl rfl ?_;exact ⟨HK,by simp [newerB, *]⟩
 refine L.run f (rest':=[]) (by kernel_rfl) fun _ f=>?_;have f:=f.sub (sv 4 (.bool false) sn);refine wn k (wp_ret ?_); (try simp only [xt,xb]); refine C.ret f rfl rfl ?_;exact ⟨HK,by simp [newerB, *]⟩
theorem stamped_any (p : Sp) (w : World) : Calls Tryz.prog 29 #[.agg (scell p).toArray] w (fun e w'=>Kept [] w w' ∧ e = .returned (.bool (stampedB p))):=by
 have HK : Kept [] w w:=Kept.refl [] w;refine C.enter Tryz.func29 rfl Tryz.ntmps29 rfl ?_;intro a f;have f : Fr 31 a [(0,.agg (scell p).toArray)]:=f;refine C.sk fun _ k=>?_;refine L.box f wantedN (by decide) rfl rfl fun _ w1 g0 N f=>?_;obtain ⟨Bg0,q,log0,ltg0,szw1⟩:=N.al;have frg0:=HK.lo log0;replace HK:=HK.z q;clear N q;refine L.ag f fun _ f=>?_;have f:=f.pk [1,2];refine wn k (C.sk fun _ k=>?_);refine L.fa 0 f U24 rfl Za fun _ f=>?_;refine L.va f (E.load f U2 rfl rfl ((Bg0).cl rfl)) fun _ f=>?_;refine L.va f (E.geq f rfl rfl) fun _ f=>?_;refine L.mv f fun _ f=>?_;refine f.splitD 6 rfl (fun h0 f=>?_) (fun h0 f=>?_)
 ·refine L.fa 0 f U24 rfl Za (hw:=f.y) fun _ f40=>?_;refine L.va f40 (E.load f40 U2 rfl rfl ((Bg0).cl rfl)) (hw:=f40.y) fun _ f40=>?_;refine L.va f40 (E.leq f40 rfl rfl) (hw:=f40.y) fun _ f40=>?_;refine L.va f40 (E.pickT f40 rfl rfl) fun _ f40=>?_;refine L.mv f40 fun _ f40=>?_;refine f40.splitD 11 rfl (fun h1 f40=>?_) (fun h1 f40=>?_)
  ·refine L.fa 1 f40 U24 rfl Za (hw:=f40.y) fun _ f41=>?_;refine L.va f41 (E.load f41 U2 rfl rfl ((Bg0).cl rfl)) (hw:=f41.y) fun _ f41=>?_;refine L.va f41 (E.geq f41 rfl rfl) (hw:=f41.y) fun _ f41=>?_;refine L.va f41 (E.pickT f41 rfl rfl) fun _ f41=>?_;refine L.mv f41 fun _ f41=>?_;refine f41.splitD 16 rfl (fun h2 f41=>?_) (fun h2 f41=>?_)
   ·refine L.fa 1 f41 U24 rfl Za (hw:=f41.y) fun _ f42=>?_;refine L.va f42 (E.load f42 U2 rfl rfl ((Bg0).cl rfl)) (hw:=f42.y) fun _ f42=>?_;refine L.va f42 (E.leq f42 rfl rfl) (hw:=f42.y) fun _ f42=>?_;refine L.va f42 (E.pickT f42 rfl rfl) fun _ f42=>?_;refine L.mv f42 fun _ f42=>?_;refine f42.splitD 21 rfl (fun h3 f42=>?_) (fun h3 f42=>?_)
    ·refine L.fa 2 f42 U24 rfl Z0 (hw:=f42.y) fun _ f43=>?_;refine L.va f43 (E.load f43 U3 rfl rfl ((Bg0).cl rfl)) (hw:=f43.y) fun _ f43=>?_;refine L.va f43 (E.geq f43 rfl rfl) (hw:=f43.y) fun _ f43=>?_;refine L.va f43 (E.pickT f43 rfl rfl) fun _ f43=>?_;refine L.mv f43 fun _ f43=>?_;refine f43.splitD 26 rfl (fun h4 f43=>?_) (fun h4 f43=>?_)
     ·refine L.fa 2 f43 U24 rfl Z0 (hw:=f43.y) fun _ f44=>?_;refine L.va f44 (E.load f44 U3 rfl rfl ((Bg0).cl rfl)) (hw:=f44.y) fun _ f44=>?_;refine L.va f44 (E.lss f44 rfl rfl) (hw:=f44.y) fun _ f44=>?_;refine L.va f44 (E.pickT f44 rfl rfl) fun _ f44=>?_;refine L.ag f44 fun _ f44=>?_;have f44:=f44.pk [2];refine wn k (wp_ret ?_); (try simp only [xt,xb]); refine C.ret f44 rfl rfl ?_;exact ⟨HK,by simp [stampedB, *]⟩
     refine L.run f43 (rest':=[]) (by kernel_rfl) fun _ f43=>?_;have f43:=f43.sub (sv 2 (.bool false) sn);refine wn k (wp_ret ?_); (try simp only [xt,xb]); refine C.ret f43 rfl rfl ?_;exact ⟨HK,by simp [stampedB, *]⟩
    refine L.run f42 (rest':=[]) (by kernel_rfl) fun _ f42=>?_;have f42:=f42.sub (sv 2 (.bool false) sn);refine wn k (wp_ret ?_); (try simp only [xt,xb]); refine C.ret f42 rfl rfl ?_;exact ⟨HK,by simp [stampedB, *]⟩
   refine L.run f41 (rest':=[]) (by kernel_rfl) fun _ f41=>?_;have f41:=f41.sub (sv 2 (.bool false) sn);refine wn k (wp_ret ?_); (try simp only [xt,xb]); refine C.ret f41 rfl rfl ?_;exact ⟨HK,by simp [stampedB, *]⟩
  refine L.run f40 (rest':=[]) (by kernel_rfl) fun _ f40=>?_;have f40:=f40.sub (sv 2 (.bool false) sn);refine wn k (wp_ret ?_); (try simp only [xt,xb]); refine C.ret f40 rfl rfl ?_;exact ⟨HK,by simp [stampedB, *]⟩
 refine L.run f (rest':=[]) (by kernel_rfl) fun _ f=>?_;have f:=f.sub (sv 2 (.bool false) sn);refine wn k (wp_ret ?_); (try simp only [xt,xb]); refine C.ret f rfl rfl ?_;exact ⟨HK,by simp [stampedB, *]⟩
theorem Pair_any (x y : Int) (w : World) : Calls Tryz.prog 28 #[.int .i64 x,.int .i64 y] w (fun e w'=>w = w' ∧ e = .returned (.bool (decide (0 ≤ x) && decide (x < 16) && decide (1 ≤ y)))):=by
 refine C.enter Tryz.func28 rfl Tryz.ntmps28 rfl ?_;intro a f;have f : Fr 15 a [(0,.int .i64 x),(1,.int .i64 y)]:=f;refine C.sk fun _ k=>?_;refine L.ag f fun _ f=>?_;have f:=f.pk [0,1,4];refine wn k (C.sk fun _ k=>?_);refine L.mv f fun _ f=>?_;refine L.va f (E.geq f rfl rfl) fun _ f=>?_;refine L.mv f fun _ f=>?_;refine f.splitD 7 rfl (fun h0 f=>?_) (fun h0 f=>?_)
 ·refine L.mv f (hw:=f.y) fun _ f18=>?_;refine L.va f18 (E.lss f18 rfl rfl) (hw:=f18.y) fun _ f18=>?_;refine L.va f18 (E.pickT f18 rfl rfl) fun _ f18=>?_;refine L.mv f18 fun _ f18=>?_;refine f18.splitD 11 rfl (fun h1 f18=>?_) (fun h1 f18=>?_)
  ·refine L.mv f18 (hw:=f18.y) fun _ f19=>?_;refine L.va f19 (E.geq f19 rfl rfl) (hw:=f19.y) fun _ f19=>?_;refine L.va f19 (E.pickT f19 rfl rfl) fun _ f19=>?_;refine L.ag f19 fun _ f19=>?_;have f19:=f19.pk [4];refine wn k (wp_ret ?_); (try simp only [xt,xb]); refine C.ret f19 rfl rfl ?_;exact ⟨rfl,by simp [*]⟩
  refine L.run f18 (rest':=[]) (by kernel_rfl) fun _ f18=>?_;have f18:=f18.sub (sv 4 (.bool false) sn);refine wn k (wp_ret ?_); (try simp only [xt,xb]); refine C.ret f18 rfl rfl ?_;exact ⟨rfl,by simp [*]⟩
 refine L.run f (rest':=[]) (by kernel_rfl) fun _ f=>?_;have f:=f.sub (sv 4 (.bool false) sn);refine wn k (wp_ret ?_); (try simp only [xt,xb]); refine C.ret f rfl rfl ?_;exact ⟨rfl,by simp [*]⟩
end Go.Proofs.YtekmhcdgmgbheaaGreatDoor
namespace Go.Hub
open Go.RowKit
structure Fe where
  node : Int
  epoch : Int
structure Ro where
  d : Dt
  filter : ByteArray
abbrev fcell (p : Fe) : List Value:=[.int .i64 p.node,.int .i64 p.epoch]
abbrev rcell (p : Ro) : List Value:=[.int .i64 p.d.node,.int .i64 p.d.epoch,.int .i64 p.d.n,.string p.filter]
def fcells (l : List Fe) : List Value:=l.flatMap fcell
def rocells (l : List Ro) : List Value:=l.flatMap rcell
theorem fcells_one (l : List Fe) : ∀ u ∈ fcells l,u.oneCell' = true:=fun u hu=>by
  unfold fcells at hu
  simp at hu
  obtain ⟨p,_,rfl | rfl⟩:=hu <;> rfl
theorem rocells_one (l : List Ro) : ∀ u ∈ rocells l,u.oneCell' = true:=fun u hu=>by
  unfold rocells at hu
  simp at hu
  obtain ⟨p,_,rfl | rfl | rfl | rfl⟩:=hu <;> rfl
structure Tm where
  seen : List Dt
  fen : List Fe
  rou : List Ro
  cel : List Cp
  sA : Option Addr
  sc : Nat
  fA : Option Addr
  fc : Nat
  rA : Option Addr
  rc : Nat
  cA : Option Addr
  cc : Nat
abbrev tcell (t : Tm) : List Value:=[.slice t.sA t.seen.length t.sc,.slice t.fA t.fen.length t.fc,.slice t.rA t.rou.length t.rc,.slice t.cA t.cel.length t.cc]
structure TmOk (w : World) (t : Tm) : Prop where
  s : Ds w t.sA t.seen
  f : Sl w t.fA t.fen.length 2 (fcells t.fen)
  r : Sl w t.rA t.rou.length 4 (rocells t.rou)
  c : Cs w t.cA t.cel
  p : ∀ x ∈ t.cel,PayS w x
structure TmNew (w0 w : World) (t : Tm) : Prop where
  s : Fresh w0 w 46 3 t.sA t.seen.length t.sc (dcells t.seen)
  f : Fresh w0 w 64 2 t.fA t.fen.length t.fc (fcells t.fen)
  r : Fresh w0 w 66 4 t.rA t.rou.length t.rc (rocells t.rou)
  c : Fresh w0 w 48 10 t.cA t.cel.length t.cc (pcells t.cel)
  p : ∀ x ∈ t.cel,PayOk w x
structure TmSm (t : Tm) : Prop where
  s : t.seen.length ≤ 1000000
  f : t.fen.length ≤ 1000000
  r : t.rou.length ≤ 1000000
  c : t.cel.length ≤ 1000000
  p : ∀ x ∈ t.cel,x.x.pay.length ≤ 1000000
section
variable {w w' w0 : World} {t : Tm}
theorem TmOk.kept (h : TmOk w t) (hk : Kept [] w w') : TmOk w' t:=⟨h.s.kept hk,h.f.kept hk,h.r.kept hk,h.c.kept hk,fun x hx=>(h.p x hx).kept hk⟩
theorem TmNew.kept (h : TmNew w0 w t) (hk : Kept [] w w') : TmNew w0 w' t:=⟨h.s.kept0 hk,h.f.kept0 hk,h.r.kept0 hk,h.c.kept0 hk,fun x hx=>(h.p x hx).kept hk⟩
theorem TmNew.ok (h : TmNew w0 w t) : TmOk w t:=⟨h.s.sl,h.f.sl,h.r.sl,h.c.sl,fun x hx=>(h.p x hx).s⟩
theorem TmNew.lower {w1 : World} (h : TmNew w0 w t) (hs : w1.heap.size ≤ w0.heap.size) : TmNew w1 w t:=⟨h.s.lower hs,h.f.lower hs,h.r.lower hs,h.c.lower hs,h.p⟩
theorem TmOk.row (h : TmOk w t) {b off i : Nat} {p : Cp} (hA : t.cA = some ⟨b,off,none⟩) (hd : t.cel[i]? = some p) : w.rangeAt b (off + i * 10) (pcell p):=h.c.row hA hd
theorem TmOk.addr (h : TmOk w t) {i : Nat} (hi : i < t.cel.length) : ∃ b off,t.cA = some ⟨b,off,none⟩:=h.c.addr hi
end
def Tm.same (t t' : Tm) : Prop:=t'.seen = t.seen ∧ t'.fen = t.fen ∧ t'.rou = t.rou ∧ t'.cel.map Cp.x = t.cel.map Cp.x
theorem sm_pay {l l' : List Cp} (h : l'.map Cp.x = l.map Cp.x) (hl : ∀ x ∈ l,x.x.pay.length ≤ 1000000) : ∀ x ∈ l',x.x.pay.length ≤ 1000000:=fun x hx=>by
  have : x.x ∈ l.map Cp.x:=h ▸ List.mem_map_of_mem hx
  obtain ⟨y,hy,e⟩:=List.mem_map.1 this
  rw [← e]
  exact hl y hy
theorem asc_same {l l' : List Cp} (h : l'.map Cp.x = l.map Cp.x) (ha : Asc l) : Asc l':=fun i j a b hij ea eb=>by
  have e1 : (l.map Cp.x)[i]? = some a.x:=by rw [← h]; simp [ea]
  have e2 : (l.map Cp.x)[j]? = some b.x:=by rw [← h]; simp [eb]
  rw [List.getElem?_map] at e1 e2
  obtain ⟨a',ha',ea'⟩:=Option.map_eq_some_iff.1 e1
  obtain ⟨b',hb',eb'⟩:=Option.map_eq_some_iff.1 e2
  rw [← ea',← eb']
  exact ha i j a' b' hij ha' hb'
end Go.Hub
namespace Go.Proofs.YtekmhcdgmgbheaaGreatDoor
open Go.RowKit Go.Hub Go.Lib
theorem Zc : (Tryz.prog.info? 64).map (fun i=>(i.zero,i.size,i.bytes)) = some (some (.agg #[(.int .i64 0),(.int .i64 0)]),2,16):=by kernel_rfl
theorem Zd : (Tryz.prog.info? 64).map (·.size) = some 2:=by kernel_rfl
theorem Ze : (Tryz.prog.info? 66).map (fun i=>(i.zero,i.size,i.bytes)) = some (some (.agg #[(.int .i64 0),(.int .i64 0),(.int .i64 0),(.string ⟨#[]⟩)]),4,40):=by kernel_rfl
theorem Zf : (Tryz.prog.info? 66).map (·.size) = some 4:=by kernel_rfl
theorem Zg : (Tryz.prog.info? 48).map (fun i=>(i.zero,i.size,i.bytes)) = some (some (.agg #[(.int .i64 0),(.int .i64 0),(.int .i64 0),(.int .i64 0),(.int .i64 0),(.int .i64 0),(.string ⟨#[]⟩),(.slice none 0 0),(.int .i64 0),(.bool false)]),10,104):=by kernel_rfl
theorem Zh : (Tryz.prog.info? 48).map (·.size) = some 10:=by kernel_rfl
theorem Zi : (Tryz.prog.info? 5).map (fun i=>(i.zero,i.size,i.bytes)) = some (some (.int .u8 0),1,1):=by kernel_rfl
theorem Zj : (Tryz.prog.info? 5).map (·.size) = some 1:=by kernel_rfl
def PM (w : World) (c : List Cp) (k : Nat) (l : List Cp) : Prop:=(∀ i q,i < k → l[i]? = some q → PayOk w q) ∧ ∀ i,k ≤ i → l[i]? = c[i]?
section
variable {w w' : World} {c l : List Cp} {k g t : Nat} {cs : Array Value} {p : Cp} {fr : Nat × Nat}
theorem PM.zero (w : World) (c : List Cp) : PM w c 0 c:=⟨fun i q h=>absurd h (by omega),fun _ _=>rfl⟩
theorem PM.kept (h : PM w c k l) (hk : Kept [] w w') : PM w' c k l:=⟨fun i q hi hq=>(h.1 i q hi hq).kept hk,h.2⟩
theorem PM.kept1 (h : PM w c k l) (hk : Kept [g] w w') (hg : w.heap[g]? = some (.cells cs t (0,0))) (ht : t ≠ 5) : PM w' c k l:=⟨fun i q hi hq=>(h.1 i q hi hq).kept1 hk hg ht,h.2⟩
theorem PM.set (h : PM w c k l) (hp : PayOk w p) : PM w c (k + 1) (l.set k p):=⟨fun i q hi hq=>by
  rw [List.getElem?_set] at hq
  split at hq
  · split at hq
    · injection hq with hq; rw [← hq]; exact hp
    cases hq
  · next hne=>exact h.1 i q (by omega) hq,fun i hi=>by
  rw [List.getElem?_set_ne (by omega)]
  exact h.2 i (by omega)⟩
theorem PM.all (h : PM w c k l) (hk : l.length ≤ k) : ∀ q ∈ l,PayOk w q:=fun q hq=>by
  obtain ⟨i,hi⟩:=List.getElem?_of_mem hq
  have:=(List.getElem?_eq_some_iff.1 hi).1
  exact h.1 i q (by omega) hi
end
theorem fr_ne {w0 w : World} {e t size n c b q : Nat} {A : Option Addr} {xs : List Value} {cs : Array Value} {fr : Nat × Nat} (F : Fresh w0 w e size A n c xs) (hb : w.heap[b]? = some (.cells cs t fr)) (hq : A.map (·.block) = some q) (ht : e ≠ t) : ¬ q = b:=fun h=>by
  obtain ⟨_,cs',h'⟩:=F.own.blk q ((own_block _ _ _ q).2 hq)
  rw [h,hb] at h'
  injection h' with h'
  injection h' with _ h2 _
  exact ht h2.symm
theorem fr_neB {w0 w : World} {e t size n c b q : Nat} {A : Option Addr} {xs : List Value} {cs : Array Value} (F : Fresh w0 w e size A n c xs) (hb : Blk w b t cs) (hq : A.map (·.block) = some q) (ht : e ≠ t) : ¬ q = b:=fr_ne F hb hq ht
def ClPost (w : World) (et sz n : Nat) (xs : List Value) (e : Ending) (w' : World) : Prop:=Kept [] w w' ∧ ∃ A c,e = .returned (.slice A n c) ∧ Fresh w w' et sz A n c xs
theorem cloneF_any (l : List Fe) (A : Option Addr) (c : Nat) (w : World) (A1 : Sl w A l.length 2 (fcells l)) (hm : l.length ≤ 1000000) : Calls Tryz.prog 63 #[.slice A l.length c] w (ClPost w 64 2 l.length (fcells l)):=by
 have HK : Kept [] w w:=Kept.refl [] w;refine C.enter Tryz.func63 rfl Tryz.ntmps63 rfl ?_;intro a f;have f : Fr 8 a [(0,.slice A l.length c)]:=f;refine C.sk fun _ k1=>?_;refine L.ag f fun _ f=>?_;refine wn k1 ?_;have f:=f.pk [0,2];refine wp_seq_k fun _ k1=>C.sk fun _ k2=>?_;refine L.mv f fun _ f=>?_;refine L.va f (E.eqlNil f U36 rfl rfl) fun _ f=>?_;refine wn k2 ?_;have f:=f.pk [0,2,4];refine f.split 4 rfl (fun h0 f=>?_) (fun h0 f=>?_)
 ·have hA0 : A = none:=by simpa using h0
  have hl0 : l = []:=by
   rcases l with _ | ⟨d,r⟩
   ·rfl
   obtain ⟨b,off,e⟩:=Sl.addr A1 (by simp);rw [hA0] at e;cases e
  refine C.condT f rfl ?_;refine C.sk fun _ k2=>?_;refine L.ag f fun _ f14=>?_;have f14:=f14.pk [0,2];refine wn k2 (wp_ret ?_); (try simp only [xt,xb]); refine C.ret f14 rfl rfl ?_;subst hl0;exact ⟨HK,none,0,rfl,Fresh.nil _ _ _ _⟩
 refine C.condF f rfl ?_;refine wp_skip (k1 _ _ ?_);have f:=f.pk [0,2];refine C.sk fun _ k1=>?_;refine L.buildNone f wantedN (by decide) U36 Zd fun _ w1 g0 N f=>?_;have OW:=N.own (k:=0) (size:=2) rfl (by decide);obtain ⟨Bg0,q,log0,ltg0,szw1⟩:=N.al;have frg0:=HK.lo log0;replace HK:=HK.z q;clear N q;refine L.mv f fun _ f=>?_;refine L.append f wantedN (by decide) U36 Zc rfl rfl rfl rfl (OW) ((Sl.kept A1 HK)) (fcells_one l) (by unfold maxLen; omega) (by omega) fun _ w2 A2 c2 AP2 f=>?_;have kap2 : Kept [g0] w1 w2:=by simpa [Value.ownBlock] using AP2.kept
 have FR:=AP2.next (⟨OW,fun b hb=>by simp at hb; omega⟩ : Fresh w w1 64 2 (some ⟨g0,0,none⟩) 0 0 _) HK.size
 have szw2:=kap2.size;replace HK:=HK.trans kap2 (by intro x hx hlt; simp at hx; subst hx; (exfalso; omega));clear kap2;refine L.ag f fun _ f=>?_;have f:=f.pk [2];refine wn k1 (wp_ret ?_); (try simp only [xt,xb]); refine C.ret f rfl rfl ?_;simp only [Nat.zero_add] at FR f ⊢;exact ⟨HK,_,_,rfl,by simpa using FR⟩
theorem cloneR_any (l : List Ro) (A : Option Addr) (c : Nat) (w : World) (A1 : Sl w A l.length 4 (rocells l)) (hm : l.length ≤ 1000000) : Calls Tryz.prog 64 #[.slice A l.length c] w (ClPost w 66 4 l.length (rocells l)):=by
 have HK : Kept [] w w:=Kept.refl [] w;refine C.enter Tryz.func64 rfl Tryz.ntmps64 rfl ?_;intro a f;have f : Fr 8 a [(0,.slice A l.length c)]:=f;refine C.sk fun _ k1=>?_;refine L.ag f fun _ f=>?_;refine wn k1 ?_;have f:=f.pk [0,2];refine wp_seq_k fun _ k1=>C.sk fun _ k2=>?_;refine L.mv f fun _ f=>?_;refine L.va f (E.eqlNil f U37 rfl rfl) fun _ f=>?_;refine wn k2 ?_;have f:=f.pk [0,2,4];refine f.split 4 rfl (fun h0 f=>?_) (fun h0 f=>?_)
 ·have hA0 : A = none:=by simpa using h0
  have hl0 : l = []:=by
   rcases l with _ | ⟨d,r⟩
   ·rfl
   obtain ⟨b,off,e⟩:=Sl.addr A1 (by simp);rw [hA0] at e;cases e
  refine C.condT f rfl ?_;refine C.sk fun _ k2=>?_;refine L.ag f fun _ f14=>?_;have f14:=f14.pk [0,2];refine wn k2 (wp_ret ?_); (try simp only [xt,xb]); refine C.ret f14 rfl rfl ?_;subst hl0;exact ⟨HK,none,0,rfl,Fresh.nil _ _ _ _⟩
 refine C.condF f rfl ?_;refine wp_skip (k1 _ _ ?_);have f:=f.pk [0,2];refine C.sk fun _ k1=>?_;refine L.buildNone f wantedN (by decide) U37 Zf fun _ w1 g0 N f=>?_;have OW:=N.own (k:=0) (size:=4) rfl (by decide);obtain ⟨Bg0,q,log0,ltg0,szw1⟩:=N.al;have frg0:=HK.lo log0;replace HK:=HK.z q;clear N q;refine L.mv f fun _ f=>?_;refine L.append f wantedN (by decide) U37 Ze rfl rfl rfl rfl (OW) ((Sl.kept A1 HK)) (rocells_one l) (by unfold maxLen; omega) (by omega) fun _ w2 A2 c2 AP2 f=>?_;have kap2 : Kept [g0] w1 w2:=by simpa [Value.ownBlock] using AP2.kept
 have FR:=AP2.next (⟨OW,fun b hb=>by simp at hb; omega⟩ : Fresh w w1 66 4 (some ⟨g0,0,none⟩) 0 0 _) HK.size
 have szw2:=kap2.size;replace HK:=HK.trans kap2 (by intro x hx hlt; simp at hx; subst hx; (exfalso; omega));clear kap2;refine L.ag f fun _ f=>?_;have f:=f.pk [2];refine wn k1 (wp_ret ?_); (try simp only [xt,xb]); refine C.ret f rfl rfl ?_;simp only [Nat.zero_add] at FR f ⊢;exact ⟨HK,_,_,rfl,by simpa using FR⟩
theorem cloneC_any (l : List Cp) (A : Option Addr) (c : Nat) (w : World) (A1 : Sl w A l.length 10 (pcells l)) (hm : l.length ≤ 1000000) : Calls Tryz.prog 65 #[.slice A l.length c] w (ClPost w 48 10 l.length (pcells l)):=by
 have HK : Kept [] w w:=Kept.refl [] w;refine C.enter Tryz.func65 rfl Tryz.ntmps65 rfl ?_;intro a f;have f : Fr 8 a [(0,.slice A l.length c)]:=f;refine C.sk fun _ k1=>?_;refine L.ag f fun _ f=>?_;refine wn k1 ?_;have f:=f.pk [0,2];refine wp_seq_k fun _ k1=>C.sk fun _ k2=>?_;refine L.mv f fun _ f=>?_;refine L.va f (E.eqlNil f U38 rfl rfl) fun _ f=>?_;refine wn k2 ?_;have f:=f.pk [0,2,4];refine f.split 4 rfl (fun h0 f=>?_) (fun h0 f=>?_)
 ·have hA0 : A = none:=by simpa using h0
  have hl0 : l = []:=by
   rcases l with _ | ⟨d,r⟩
   ·rfl
   obtain ⟨b,off,e⟩:=Sl.addr A1 (by simp);rw [hA0] at e;cases e
  refine C.condT f rfl ?_;refine C.sk fun _ k2=>?_;refine L.ag f fun _ f14=>?_;have f14:=f14.pk [0,2];refine wn k2 (wp_ret ?_); (try simp only [xt,xb]); refine C.ret f14 rfl rfl ?_;subst hl0;exact ⟨HK,none,0,rfl,Fresh.nil _ _ _ _⟩
 refine C.condF f rfl ?_;refine wp_skip (k1 _ _ ?_);have f:=f.pk [0,2];refine C.sk fun _ k1=>?_;refine L.buildNone f wantedN (by decide) U38 Zh fun _ w1 g0 N f=>?_;have OW:=N.own (k:=0) (size:=10) rfl (by decide);obtain ⟨Bg0,q,log0,ltg0,szw1⟩:=N.al;have frg0:=HK.lo log0;replace HK:=HK.z q;clear N q;refine L.mv f fun _ f=>?_;refine L.append f wantedN (by decide) U38 Zg rfl rfl rfl rfl (OW) ((Sl.kept A1 HK)) (pcells_one l) (by unfold maxLen; omega) (by omega) fun _ w2 A2 c2 AP2 f=>?_;have kap2 : Kept [g0] w1 w2:=by simpa [Value.ownBlock] using AP2.kept
 have FR:=AP2.next (⟨OW,fun b hb=>by simp at hb; omega⟩ : Fresh w w1 48 10 (some ⟨g0,0,none⟩) 0 0 _) HK.size
 have szw2:=kap2.size;replace HK:=HK.trans kap2 (by intro x hx hlt; simp at hx; subst hx; (exfalso; omega));clear kap2;refine L.ag f fun _ f=>?_;have f:=f.pk [2];refine wn k1 (wp_ret ?_); (try simp only [xt,xb]); refine C.ret f rfl rfl ?_;simp only [Nat.zero_add] at FR f ⊢;exact ⟨HK,_,_,rfl,by simpa using FR⟩
theorem cloneB_any (l : List UInt8) (A : Option Addr) (c : Nat) (w : World) (A1 : Sl w A l.length 1 (l.map u8)) (hm : l.length ≤ 1000000) : Calls Tryz.prog 32 #[.slice A l.length c] w (ClPost w 5 1 l.length (l.map u8)):=by
 have HK : Kept [] w w:=Kept.refl [] w;refine C.enter Tryz.func32 rfl Tryz.ntmps32 rfl ?_;intro a f;have f : Fr 8 a [(0,.slice A l.length c)]:=f;refine C.sk fun _ k1=>?_;refine L.ag f fun _ f=>?_;refine wn k1 ?_;have f:=f.pk [0,2];refine wp_seq_k fun _ k1=>C.sk fun _ k2=>?_;refine L.mv f fun _ f=>?_;refine L.va f (E.eqlNil f U25 rfl rfl) fun _ f=>?_;refine wn k2 ?_;have f:=f.pk [0,2,4];refine f.split 4 rfl (fun h0 f=>?_) (fun h0 f=>?_)
 ·have hA0 : A = none:=by simpa using h0
  have hl0 : l = []:=by
   rcases l with _ | ⟨d,r⟩
   ·rfl
   obtain ⟨b,off,e⟩:=Sl.addr A1 (by simp);rw [hA0] at e;cases e
  refine C.condT f rfl ?_;refine C.sk fun _ k2=>?_;refine L.ag f fun _ f14=>?_;have f14:=f14.pk [0,2];refine wn k2 (wp_ret ?_); (try simp only [xt,xb]); refine C.ret f14 rfl rfl ?_;subst hl0;exact ⟨HK,none,0,rfl,Fresh.nil _ _ _ _⟩
 refine C.condF f rfl ?_;refine wp_skip (k1 _ _ ?_);have f:=f.pk [0,2];refine C.sk fun _ k1=>?_;refine L.buildNone f wantedN (by decide) U25 Zj fun _ w1 g0 N f=>?_;have OW:=N.own (k:=0) (size:=1) rfl (by decide);obtain ⟨Bg0,q,log0,ltg0,szw1⟩:=N.al;have frg0:=HK.lo log0;replace HK:=HK.z q;clear N q;refine L.mv f fun _ f=>?_;refine L.append f wantedN (by decide) U25 Zi rfl rfl rfl rfl (OW) ((Sl.kept A1 HK)) (fun u hu=>by obtain ⟨x,_,rfl⟩:=List.mem_map.1 hu; rfl) (by unfold maxLen; omega) (by omega) fun _ w2 A2 c2 AP2 f=>?_;have kap2 : Kept [g0] w1 w2:=by simpa [Value.ownBlock] using AP2.kept
 have FR:=AP2.next (⟨OW,fun b hb=>by simp at hb; omega⟩ : Fresh w w1 5 1 (some ⟨g0,0,none⟩) 0 0 _) HK.size
 have szw2:=kap2.size;replace HK:=HK.trans kap2 (by intro x hx hlt; simp at hx; subst hx; (exfalso; omega));clear kap2;refine L.ag f fun _ f=>?_;have f:=f.pk [2];refine wn k1 (wp_ret ?_); (try simp only [xt,xb]); refine C.ret f rfl rfl ?_;simp only [Nat.zero_add] at FR f ⊢;exact ⟨HK,_,_,rfl,by simpa using FR⟩
end Go.Proofs.YtekmhcdgmgbheaaGreatDoor
namespace Go.Hub
open Go.RowKit
def deps (md : Region.Mode) (ops : Array Oper) (j : Nat) : List Nat:=match ops[j]? with | some o=>(o.after.toList.filter fun e=>Region.binds md e).map (·.on) | none=>[]
def reach (md : Region.Mode) (ops : Array Oper) (i : Nat) : Nat → Nat → Bool
  | 0,_=>false
  | f + 1,j=>((deps md ops j).any fun k=>Nat.beq k i) || (deps md ops j).any fun k=>reach md ops i f k
def barrierT (md : Region.Mode) (ops : Array Oper) (m : Nat) : Bool:=(List.range ops.size).all fun j=>Nat.blt j m || (List.range m).all fun i=>reach md ops i 4 j
def closedB (md : Region.Mode) (ops : Array Oper) (listed : Array Bool) : Bool:=(List.range ops.size).all fun j=>!(listed.getD j true) || (deps md ops j).all fun k=>listed.getD k true
section
variable {P : Program} {ops : Array Oper} {Q : Exit → Act → World → Prop} {md : Region.Mode} {S : World → Prop} {m : Nat} {listed : Array Bool}
theorem deps_spec {j k : Nat} {o : Oper} (ho : ops[j]? = some o) : k ∈ deps md ops j ↔ ∃ e ∈ o.after,Region.binds md e = true ∧ e.on = k:=by
  unfold deps;rw [ho];simp [and_assoc]
theorem closedB_spec (h : closedB md ops listed = true) {j k : Nat} (hj : listed.getD j true = true) (hk : k ∈ deps md ops j) : listed.getD k true = true:=by
  by_cases hs : j < ops.size
  · unfold closedB at h
    have h1:=List.all_eq_true.1 h j (List.mem_range.2 hs);rw [hj] at h1;exact List.all_eq_true.1 (by simpa using h1 : (deps md ops j).all (fun k=>listed.getD k true) = true) k hk
  unfold deps at hk;rw [Array.getElem?_eq_none (by omega)] at hk;cases hk
theorem closedB_of (h : ∀ j k,listed.getD j true = true → k ∈ deps md ops j → listed.getD k true = true) : closedB md ops listed = true:=by
  unfold closedB;rw [List.all_eq_true];intro j _;cases hj : listed.getD j true
  · rfl
  simp only [Bool.not_true,Bool.false_or];rw [List.all_eq_true];exact fun k hk=>h j k hj hk
theorem getD_put {l : Array Bool} {i k : Nat} (h : l.getD k true = true) : (l.setIfInBounds i true).getD k true = true:=by
  by_cases e : i = k
  · subst e
    rw [Array.getD_eq_getD_getElem?,Array.getElem?_setIfInBounds_self]
    split <;> rfl
  rw [getD_set_ne true e]; exact h
theorem ready_deps {j : Nat} (hj : j ∈ Region.ready md ops listed) : ∀ k ∈ deps md ops j,listed.getD k true = true:=by
  obtain ⟨_,oj,hoj,hall⟩:=mem_ready.1 hj;intro k hk;obtain ⟨e,he,hb,rfl⟩:=(deps_spec hoj).1 hk;have h1:=hall e he hb
  rcases Nat.lt_or_ge e.on listed.size with h' | h'
  · simp [h'] at h1 ⊢; exact h1
  simp [Array.getElem?_eq_none h'] at h1
theorem closedB_put (h : closedB md ops listed = true) {j : Nat} (hj : j ∈ Region.ready md ops listed) : closedB md ops (listed.setIfInBounds j true) = true:=closedB_of fun q k hq hk=>by
  apply getD_put
  by_cases e : j = q
  · subst e; exact ready_deps hj k hk
  rw [getD_set_ne true e] at hq
  exact closedB_spec h hq hk
theorem reach_listed (h : closedB md ops listed = true) {i : Nat} : ∀ (f j : Nat), (∀ k ∈ deps md ops j, listed.getD k true = true) → reach md ops i f j = true → listed.getD i true = true
  | 0,_,_,hr=>by cases hr
  | f + 1,j,hd,hr=>by
    unfold reach at hr
    rw [Bool.or_eq_true] at hr
    rcases hr with hr | hr
    · obtain ⟨k, hk, e⟩ := List.any_eq_true.1 hr
      obtain rfl:=Nat.eq_of_beq_eq_true e
      exact hd k hk
    obtain ⟨k,hk,e⟩:=List.any_eq_true.1 hr
    exact reach_listed h f k (fun q hq=>closedB_spec h (hd k hk) hq) e
theorem barrierT_spec (h : barrierT md ops m = true) {i j : Nat} (hi : i < m) (hj : m ≤ j) (hs : j < ops.size) : reach md ops i 4 j = true:=by
  unfold barrierT at h;have h1:=List.all_eq_true.1 h j (List.mem_range.2 hs)
  have h2 : Nat.blt j m = false:=by
    cases hb : Nat.blt j m
    · rfl
    have:=Nat.le_of_ble_eq_true hb;omega
  rw [h2,Bool.false_or] at h1;exact List.all_eq_true.1 h1 i (List.mem_range.2 hi)
theorem wpAnyB_firstT {i : Nat} {oi : Oper} {v : Value} (hi : ops[i]? = some oi) (hsel : ∀ (j : Nat) (o : Oper) cs b, ops[j]? = some o → o.op ≠ .select cs b)
    (hQ : ∀ c a w,Q (.panic c) (a.put oi.dst v) w → Q (.panic c) a w) (him : i < m) (hbar : barrierT md ops m = true) :
    ∀ (fuel : Nat) (listed : Array Bool) (a : Act) (w : World), closedB md ops listed = true →
      (∀ j oj,ops[j]? = some oj → j ≠ i → listed.getD j true = false → (∀ e ∈ oj.after,Region.binds md e = true → e.on ≠ i) → oi.apart ops oj = true) →
      i ∈ Region.ready md ops listed → YieldsIf P ops S oi v a → S w →
      wpAnyB P md ops Q S m fuel (listed.setIfInBounds i true) (a.put oi.dst v) w → wpAnyB P md ops Q S m (fuel + 1) listed a w:=by
  intro fuel
  induction fuel with
  | zero=>
    intro listed a w _ _ hr hy hS H
    have hup : ¬ upto m listed = true:=fun hu=>by
      have h1:=upto_spec hu him;rw [(mem_ready.1 hr).1] at h1;cases h1
    unfold wpAnyB;rw [if_neg hup];refine ⟨fun h=>(by rw [h] at hr; cases hr),fun j hj=>?_⟩
    by_cases hji : j = i
    · subst hji; exact hy.wpOp hi hS ⟨hS,H⟩
    have:=ready_mono hj hji;rw [H.1] at this;cases this
  | succ fuel ih=>
    intro listed a w hcl hfree hr hy hS H
    have hup : ¬ upto m listed = true:=fun hu=>by
      have h1:=upto_spec hu him;rw [(mem_ready.1 hr).1] at h1;cases h1
    unfold wpAnyB;rw [if_neg hup];refine ⟨fun h=>(by rw [h] at hr; cases hr),fun j hj=>?_⟩
    by_cases hji : j = i
    · subst hji; exact hy.wpOp hi hS ⟨hS,H⟩
    obtain ⟨hjun,oj,hoj,hall⟩:=mem_ready.1 hj
    have hnot : ∀ e ∈ oj.after,Region.binds md e = true → e.on ≠ i:=fun e he hb heq=>by
      have h1:=hall e he hb;have h0:=(mem_ready.1 hr).1;rw [heq] at h1
      rcases Nat.lt_or_ge i listed.size with h' | h'
      · simp [h'] at h0 h1; rw [h0] at h1; cases h1
      simp [Array.getElem?_eq_none h'] at h1
    have hjm : j < m:=by
      rcases Nat.lt_or_ge j m with h | h
      · exact h
      have h1:=reach_listed hcl 4 j (ready_deps hj) (barrierT_spec hbar him h (Array.getElem?_eq_some_iff.1 hoj).1);rw [(mem_ready.1 hr).1] at h1;cases h1
    have hup' : ¬ upto m (listed.setIfInBounds i true) = true:=fun hu=>by
      have h1:=upto_spec hu hjm;rw [getD_set_ne true (Ne.symm hji),hjun] at h1;cases h1
    unfold wpAnyB at H;rw [if_neg hup'] at H;have h1:=H.2 j (ready_mono hj hji);have h2:=wpOp_putIf hoj (hfree j oj hoj hji hjun hnot) (fun cs b=>hsel i oi cs b hi) (fun cs b=>hsel j oj cs b hoj) hQ hy h1
    have hfree' : ∀ k ok, ops[k]? = some ok → k ≠ i → (listed.setIfInBounds j true).getD k true = false →
        (∀ e ∈ ok.after,Region.binds md e = true → e.on ≠ i) → oi.apart ops ok = true:=fun k ok hk hki hun hno=>by
      refine hfree k ok hk hki ?_ hno
      by_cases hjk : j = k
      · subst hjk; exact hjun
      rw [getD_set_ne true hjk] at hun; exact hun
    refine wpOp_mono (fun a' w' h3=>⟨h3.2.1,ih (listed.setIfInBounds j true) a' w' (closedB_put hcl hj) hfree' (ready_mono hr (Ne.symm hji)) h3.1 h3.2.1 ?_⟩) h2;rw [Array.setIfInBounds_comm _ _ hji];exact h3.2.2
end
section
variable {P : Program} {ops : Array Oper} {Q : Exit → Act → World → Prop} {md : Region.Mode} {S : World → Prop} {a : Act} {w w' : World} {n d : Nat} {l : FL} {v : Value} {o : Oper} {m : Nat}
theorem RBt.take (i : Nat) {fuel : Nat} {listed : Array Bool} (f : Fr n a l) (hi : ops[i]? = some o) (hd : o.dst = some d) (hn : d < n) (hb : (Nat.blt i m && (barrierT md ops m && closedB md ops listed)) = true) (hs : Region.noSelect ops = true) (hf : Region.free md ops listed i = true)
    (hr : (Region.ready md ops listed).contains i = true) (hQ : ∀ c (a : Act) (u : Value) w,Q (.panic c) (a.put (some d) u) w → Q (.panic c) a w) (hw : Region.wanted o (yielded ops a.tmps) = true) (hS : S w)
    (hv : ∀ w,S w → (execOp a.eval o).run P w = .ok (.value v) w)
    (hK : ∀ a',Fr n a' ((d,v) :: l) → wpAnyB P md ops Q S m fuel (listed.setIfInBounds i true) a' w) : wpAnyB P md ops Q S m (fuel + 1) listed a w:=by
  simp only [Bool.and_eq_true] at hb;refine wpAnyB_firstT hi (Region.noSelect_spec hs) (fun c a w h=>hQ c a v w (by rwa [hd] at h)) (Nat.le_of_ble_eq_true hb.1) hb.2.1 fuel listed a w hb.2.2 (Region.free_spec hi hf) (by simpa using hr) (.inl ⟨hw,hv⟩) hS ?_;rw [hd];exact hK _ (f.put d v hn)
end
end Go.Hub
namespace Go.Proofs.YtekmhcdgmgbheaaGreatDoor
open Go.RowKit Go.Hub Go.Lib
theorem Zk : (Tryz.prog.info? 25).map (·.size) = some 1:=by kernel_rfl
theorem Zl : (Tryz.prog.info? 32).map (·.size) = some 1:=by kernel_rfl
theorem Zm : (Tryz.prog.info? 36).map (·.size) = some 1:=by kernel_rfl
theorem Zn : (Tryz.prog.info? 37).map (·.size) = some 1:=by kernel_rfl
theorem Zo : (Tryz.prog.info? 38).map (·.size) = some 1:=by kernel_rfl
theorem Zp : (Tryz.prog.info? 40).map (·.size) = some 4:=by kernel_rfl
def CopyPost (t : Tm) (w : World) (e : Ending) (w' : World) : Prop:=Kept [] w w' ∧ ∃ t' : Tm,e = .returned (.agg (tcell t').toArray) ∧ TmNew w w' t' ∧ t.same t'
theorem cel_at {w0 w : World} {e n c b off k : Nat} {A : Option Addr} {l : List Cp} {p : Cp} (F : Fresh w0 w e 10 A n c (pcells l)) (hA : A = some ⟨b,off,none⟩) (hx : l[k]? = some p) (hn : 0 < n) (j : Nat) (v : Value) (hv : (pcell p)[j]? = some v) : w.cell? ⟨b,off + Int.toNat (k : Int) * 10 + j,none⟩ = some v:=by
  rw [Int.toNat_natCast,Nat.add_assoc];exact F.sl.cell hn hA (pcells_at l k p hx j v hv)
theorem pcells_set : ∀ (l : List Cp) (i : Nat) (p : Cp) (A : Option Addr) (c : Nat), l[i]? = some p → (pcells l).set (i * 10 + 7) (.slice A p.x.pay.length c) = pcells (l.set i ⟨p.x, A, c⟩)
  | [],i,p,A,c,h=>by simp at h
  | q :: l,0,p,A,c,h=>by
    simp at h
    subst h
    rfl
  | q :: l,i + 1,p,A,c,h=>by
    have:=pcells_set l i p A c (by simpa using h)
    rw [List.set_cons_succ,pcells_cons,pcells_cons,← this,show (i + 1) * 10 + 7 = (pcell q).length + (i * 10 + 7) by show _ = 10 + _; omega,List.set_append_right _ _ (by omega)]
    congr 2
    omega
theorem set_same {l : List Cp} {k : Nat} {p : Cp} {A : Option Addr} {c : Nat} (h : l[k]? = some p) : (l.map Cp.x).set k (Cp.x ⟨p.x,A,c⟩) = l.map Cp.x:=by
  apply List.ext_getElem?
  intro i;rw [List.getElem?_set]
  split
  · rename_i e
    subst e;rw [List.getElem?_map,h]
    simp
    exact (List.getElem?_eq_some_iff.1 h).1
  rfl
section
variable {P : Program} {ops : Array Oper} {Q : Exit → Act → World → Prop} {a : Act} {w w0 : World} {n d : Nat} {l : FL} {v : Value} {ty : TypeId} {ps : String} {af : Array Edge} {gd : Option (Nat × Bool)} {x y : Operand} {t : TypeId} {K : Act → World → Prop} {i : Nat}
theorem OT.storeFC (f : Fr n a l) (hio : ops[i]? = some ⟨none, .store t x y, ty, ps, af, gd⟩) (hw : Region.wanted ⟨none, .store t x y, ty, ps, af, gd⟩ (yielded ops a.tmps) = true) (hi : (P.info? t).map (·.size) = some 1) {b off o j e size k c : Nat} {A : Option Addr} {xs : List Value} (hA : A = some ⟨b, off, none⟩) (F : Fresh w0 w e size A k c xs) (hx : evl l x = some (.pointer (some ⟨b, o, none⟩))) (ho : o = off + j) (hj : j < xs.length) (hy : evl l y = some v) (h1 : v.oneCell' = true)
    (hK : ∀ a' w',Fr n a' l → Fresh w0 w' e size A k c (xs.set j v) → Kept [b] w w' → w0.heap.size ≤ b → K a' w') : wpOp P ops Q i (fun a w=>True ∧ K a w) a w:=by
  subst ho;obtain ⟨⟨old,h2⟩,h3,h4⟩:=F.own.set_ hA hj v;exact O.act (S:=fun _=>True) f hio rfl hw (E.store f hi hx hy h1 h2 h3) trivial fun a' f'=>hK a' _ f' ⟨h4,F.lo⟩ (setCell_kept w b _ v) (F.lo b (by rw [hA]; rfl))
end
theorem Copy_any (t : Tm) (w : World) (TO : TmOk w t) (TS : TmSm t) : Calls Tryz.prog 30 #[.agg (tcell t).toArray] w (CopyPost t w):=by
 have HK : Kept [] w w:=Kept.refl [] w;refine C.enter Tryz.func30 rfl Tryz.ntmps30 rfl ?_;intro a1 f55;have f55 : Fr 40 a1 [(0,.agg (tcell t).toArray)]:=f55;refine C.sk fun _ k1=>?_;refine L.box f55 wantedN (by decide) rfl rfl fun _ w1 g0 N f55=>?_;obtain ⟨Bg0,q1,log0,ltg0,szw1⟩:=N.al;have frg0:=HK.lo log0;replace HK:=HK.z q1;clear N q1;refine L.alloc f55 wantedN (by decide) (z:=(.agg #[(.slice none 0 0),(.slice none 0 0),(.slice none 0 0),(.slice none 0 0)])) (fun _=>by kernel_rfl) rfl fun _ w2 g1 N f55=>?_;obtain ⟨Bg1,q1,log1,ltg1,szw2⟩:=N.al;have frg1:=HK.lo log1;have neg0_g1 : g0 ≠ g1:=by have:=Bg0.lt; omega
 replace HK:=HK.z q1;replace Bg0:=Bg0.z q1;clear N q1;refine wn k1 ?_;have f55:=f55.pk [1,2];refine wp_seq_k fun _ k1=>?_;refine RB.begin (S:=fun W=>Kept [] w2 W) 13 (by kernel_rfl) (by exact (Kept.refl _ _).drewN 1) ?_;have s1 : Kept [] w2 (w2.drewN 1):=(Kept.refl _ _).drewN 1;have hd1 : Kept [] w2 (w2.drewN 1):=(Kept.refl _ _).drewN 1;obtain ⟨w3,hww3⟩ : ∃ W,W = w2.drewN 1:=⟨_,rfl⟩;rw [← hww3] at s1 hd1 ⊢;clear hww3;have szw3:=s1.size;refine RBt.take 0 f55 rfl rfl (by decide) (by kernel_rfl) (by kernel_rfl) (by kernel_rfl) (by kernel_rfl) (fun _ _ _ _ h=>h) wantedN s1 (fun W hW=>(E.fa 0 f55 U40 rfl Zl)) fun _ f55=>?_;refine RBt.take 1 f55 rfl rfl (by decide) (by kernel_rfl) (by kernel_rfl) (by kernel_rfl) (by kernel_rfl) (fun _ _ _ _ h=>h) wantedN s1 (fun W hW=>(E.load f55 U32 rfl rfl ((Bg0.z hW).cl rfl))) fun _ f55=>?_;refine RBt.take 3 f55 rfl rfl (by decide) (by kernel_rfl) (by kernel_rfl) (by kernel_rfl) (by kernel_rfl) (fun _ _ _ _ h=>h) wantedN s1 (fun W hW=>(E.fa 1 f55 U40 rfl Zm)) fun _ f55=>?_;refine RBt.take 4 f55 rfl rfl (by decide) (by kernel_rfl) (by kernel_rfl) (by kernel_rfl) (by kernel_rfl) (fun _ _ _ _ h=>h) wantedN s1 (fun W hW=>(E.load f55 U36 rfl rfl ((Bg0.z hW).cl rfl))) fun _ f55=>?_;refine RBt.take 6 f55 rfl rfl (by decide) (by kernel_rfl) (by kernel_rfl) (by kernel_rfl) (by kernel_rfl) (fun _ _ _ _ h=>h) wantedN s1 (fun W hW=>(E.fa 2 f55 U40 rfl Zn)) fun _ f55=>?_
 refine RBt.take 7 f55 rfl rfl (by decide) (by kernel_rfl) (by kernel_rfl) (by kernel_rfl) (by kernel_rfl) (fun _ _ _ _ h=>h) wantedN s1 (fun W hW=>(E.load f55 U37 rfl rfl ((Bg0.z hW).cl rfl))) fun _ f55=>?_;refine RBt.take 9 f55 rfl rfl (by decide) (by kernel_rfl) (by kernel_rfl) (by kernel_rfl) (by kernel_rfl) (fun _ _ _ _ h=>h) wantedN s1 (fun W hW=>(E.fa 3 f55 U40 rfl Zo)) fun _ f55=>?_;refine RBt.take 10 f55 rfl rfl (by decide) (by kernel_rfl) (by kernel_rfl) (by kernel_rfl) (by kernel_rfl) (fun _ _ _ _ h=>h) wantedN s1 (fun W hW=>(E.load f55 U38 rfl rfl ((Bg0.z hW).cl rfl))) fun _ f55=>?_;refine RB.cl 2 f55 rfl (rc1 f55 Tryz.call62) (clone_any t.seen _ _ _ (TO.s.kept (HK.z s1)) TS.s) ?_;rintro e w4 ⟨q1,Ad,cd,rfl,FD⟩;have FD:=FD.lower (w0:=w) (by have:=HK.size; omega);replace s1:=s1.trans q1 (by simp);refine ⟨_,rfl,s1,fun _ f55=>?_⟩;have szw4:=q1.size;clear q1;refine RBt.take 12 f55 rfl rfl (by decide) (by kernel_rfl) (by kernel_rfl) (by kernel_rfl) (by kernel_rfl) (fun _ _ _ _ h=>h) wantedN s1 (fun W hW=>(E.fa 0 f55 U40 rfl Zl)) fun _ f55=>?_;refine RB.cl 5 f55 rfl (rc1 f55 Tryz.call63) (cloneF_any t.fen _ _ _ (TO.f.kept (HK.z s1)) TS.f) ?_;rintro e w5 ⟨q1,Af,cf,rfl,FF⟩;have FF:=FF.lower (w0:=w) (by have:=HK.size; omega);replace s1:=s1.trans q1 (by simp);refine ⟨_,rfl,s1,fun _ f55=>?_⟩;have szw5:=q1.size;replace FD:=(by exact FD.kept0 q1);clear q1
 refine RB.cl 8 f55 rfl (rc1 f55 Tryz.call64) (cloneR_any t.rou _ _ _ (TO.r.kept (HK.z s1)) TS.r) ?_;rintro e w6 ⟨q1,Ae,ce,rfl,FE⟩;have FE:=FE.lower (w0:=w) (by have:=HK.size; omega);replace s1:=s1.trans q1 (by simp);refine ⟨_,rfl,s1,fun _ f55=>?_⟩;have szw6:=q1.size;replace FD:=(by exact FD.kept0 q1);replace FF:=(by exact FF.kept0 q1);clear q1;refine RB.cl 11 f55 rfl (rc1 f55 Tryz.call65) (cloneC_any t.cel _ _ _ (TO.c.kept (HK.z s1)) TS.c) ?_;rintro e w7 ⟨q1,Ac,cc',rfl,FC⟩;have FC:=FC.lower (w0:=w) (by have:=HK.size; omega);replace s1:=s1.trans q1 (by simp);refine ⟨_,rfl,s1,fun _ f55=>?_⟩;have szw7:=q1.size;replace FD:=(by exact FD.kept0 q1);replace FF:=(by exact FF.kept0 q1);replace FE:=(by exact FE.kept0 q1);clear q1;refine RB.stop (by kernel_rfl) ?_;have szw7r:=s1.size;replace HK:=HK.z s1;replace Bg0:=Bg0.z s1;replace Bg1:=Bg1.z s1;clear s1;refine R.on 13 ?_;refine OT.store f55 rfl wantedN Zl rfl rfl rfl Bg0 (by (simp [Value.cells]; done)) fun _ w8 f55 NB8 ks8=>?_;have szw8:=ks8.size;replace HK:=HK.trans ks8 (by intro x hx hlt; simp at hx; subst hx; (exfalso; omega));replace Bg1:=Bg1.kn ks8;replace FD:=FD.kept ks8 (fun q hq=>by simp only [List.mem_singleton]; exact fr_ne FD Bg0 hq (by decide));replace FF:=FF.kept ks8 (fun q hq=>by simp only [List.mem_singleton]; exact fr_ne FF Bg0 hq (by decide))
 replace FE:=FE.kept ks8 (fun q hq=>by simp only [List.mem_singleton]; exact fr_ne FE Bg0 hq (by decide));replace FC:=FC.kept ks8 (fun q hq=>by simp only [List.mem_singleton]; exact fr_ne FC Bg0 hq (by decide));replace Bg0:=NB8;simp only [Value.cells,List.setIfInBounds_toArray,List.set_cons_zero,List.set_cons_succ,Nat.reduceAdd,Nat.zero_add] at Bg0;clear ks8;refine R.p 14 f55 rfl trivial (E.fa 1 f55 U40 rfl Zm) fun _ f55=>?_;refine R.on 15 ?_;refine OT.store f55 rfl wantedN Zm rfl rfl rfl Bg0 (by (simp [Value.cells]; done)) fun _ w9 f55 NB9 ks9=>?_;have szw9:=ks9.size;replace HK:=HK.trans ks9 (by intro x hx hlt; simp at hx; subst hx; (exfalso; omega));replace Bg1:=Bg1.kn ks9;replace FD:=FD.kept ks9 (fun q hq=>by simp only [List.mem_singleton]; exact fr_ne FD Bg0 hq (by decide));replace FF:=FF.kept ks9 (fun q hq=>by simp only [List.mem_singleton]; exact fr_ne FF Bg0 hq (by decide));replace FE:=FE.kept ks9 (fun q hq=>by simp only [List.mem_singleton]; exact fr_ne FE Bg0 hq (by decide));replace FC:=FC.kept ks9 (fun q hq=>by simp only [List.mem_singleton]; exact fr_ne FC Bg0 hq (by decide));replace Bg0:=NB9;simp only [Value.cells,List.setIfInBounds_toArray,List.set_cons_zero,List.set_cons_succ,Nat.reduceAdd,Nat.zero_add] at Bg0;clear ks9;refine R.p 16 f55 rfl trivial (E.fa 2 f55 U40 rfl Zn) fun _ f55=>?_;refine R.on 17 ?_
 refine OT.store f55 rfl wantedN Zn rfl rfl rfl Bg0 (by (simp [Value.cells]; done)) fun _ w10 f55 NB10 ks10=>?_;have szw10:=ks10.size;replace HK:=HK.trans ks10 (by intro x hx hlt; simp at hx; subst hx; (exfalso; omega));replace Bg1:=Bg1.kn ks10;replace FD:=FD.kept ks10 (fun q hq=>by simp only [List.mem_singleton]; exact fr_ne FD Bg0 hq (by decide));replace FF:=FF.kept ks10 (fun q hq=>by simp only [List.mem_singleton]; exact fr_ne FF Bg0 hq (by decide));replace FE:=FE.kept ks10 (fun q hq=>by simp only [List.mem_singleton]; exact fr_ne FE Bg0 hq (by decide));replace FC:=FC.kept ks10 (fun q hq=>by simp only [List.mem_singleton]; exact fr_ne FC Bg0 hq (by decide));replace Bg0:=NB10;simp only [Value.cells,List.setIfInBounds_toArray,List.set_cons_zero,List.set_cons_succ,Nat.reduceAdd,Nat.zero_add] at Bg0;clear ks10;refine R.p 18 f55 rfl trivial (E.fa 3 f55 U40 rfl Zo) fun _ f55=>?_;refine R.on 19 ?_;refine OT.store f55 rfl wantedN Zo rfl rfl rfl Bg0 (by (simp [Value.cells]; done)) fun _ w11 f55 NB11 ks11=>?_;have szw11:=ks11.size;replace HK:=HK.trans ks11 (by intro x hx hlt; simp at hx; subst hx; (exfalso; omega));replace Bg1:=Bg1.kn ks11;replace FD:=FD.kept ks11 (fun q hq=>by simp only [List.mem_singleton]; exact fr_ne FD Bg0 hq (by decide));replace FF:=FF.kept ks11 (fun q hq=>by simp only [List.mem_singleton]; exact fr_ne FF Bg0 hq (by decide))
 replace FE:=FE.kept ks11 (fun q hq=>by simp only [List.mem_singleton]; exact fr_ne FE Bg0 hq (by decide));replace FC:=FC.kept ks11 (fun q hq=>by simp only [List.mem_singleton]; exact fr_ne FC Bg0 hq (by decide));replace Bg0:=NB11;simp only [Value.cells,List.setIfInBounds_toArray,List.set_cons_zero,List.set_cons_succ,Nat.reduceAdd,Nat.zero_add] at Bg0;clear ks11;refine R.done (by kernel_rfl) (k1 _ _ ?_);have f55:=f55.pk [1,2];refine wp_seq_k fun _ k1=>?_;refine wp_seq_k fun _ k2=>?_;have hP : PM w11 t.cel 0 t.cel:=PM.zero _ _;refine C.region ?_;refine L.fa 3 f55 U40 rfl Zo fun _ f55=>?_;refine L.va f55 (E.load f55 U38 rfl rfl ((Bg0).cl rfl)) fun _ f55=>?_;refine L.va f55 (E.lenL f55 U38 rfl) fun _ f55=>?_;refine L.mv f55 fun _ f55=>?_;refine wn k2 ?_;have f55:=f55.pk [1,2,22,23];refine wp_block ?_
 refine C.loop (fun gk a W=>∃ (k : Nat) (l : List Cp),k + gk = t.cel.length ∧ l.map Cp.x = t.cel.map Cp.x ∧ PM W t.cel k l ∧ Fresh w W 48 10 Ac l.length cc' (pcells l) ∧ Fresh w W 46 3 Ad t.seen.length cd (dcells t.seen) ∧ Fresh w W 64 2 Af t.fen.length cf (fcells t.fen) ∧ Fresh w W 66 4 Ae t.rou.length ce (rocells t.rou) ∧ Kept [] w W ∧ Blk W g0 40 #[.slice Ad t.seen.length cd,.slice Af t.fen.length cf,.slice Ae t.rou.length ce,.slice Ac t.cel.length cc'] ∧ Blk W g1 40 #[.slice none 0 0,.slice none 0 0,.slice none 0 0,.slice none 0 0] ∧ Fr 40 a [(1,.pointer (some ⟨g0,0,none⟩)),(2,.pointer (some ⟨g1,0,none⟩)),(22,.int .i64 t.cel.length),(23,.int .i64 k)]) (t.cel.length) ?_ ?_
 ·exact ⟨0,t.cel,by omega,rfl,hP,FC,FD,FF,FE,HK,Bg0,Bg1,f55.sub (sx (sx (sx (sx sn))))⟩
 intro gk5 _ w12 hI KL4 hKL4;obtain ⟨k,l,hk,hl,hP,FC,FD,FF,FE,HK,Bg0,Bg1,f56⟩:=hI
 try clear f55
 have hSc:=TS.c;have hll : l.length = t.cel.length:=by have:=congrArg List.length hl; simpa using this
 refine C.sk fun _ k2=>?_;refine L.va f56 (E.lss f56 rfl rfl) fun _ f55=>?_;refine wn k2 ?_;have f55:=f55.pk [1,2,22,23,24];refine wp_seq_k fun _ k2=>?_;refine f55.splitD 24 rfl (fun h0 f55=>?_) (fun h0 f55=>?_)
 ·obtain ⟨p,hx⟩ : ∃ p,l[k]? = some p:=⟨l[k]'(by omega),List.getElem?_eq_getElem _⟩;obtain ⟨b,off,hA⟩:=FC.sl.addr (by omega);have hpm : p ∈ t.cel:=List.mem_of_getElem? (by rw [← hP.2 k (Nat.le_refl _)]; exact hx);refine C.condT f55 rfl ?_;refine wp_skip (k2 _ _ ?_);have f56:=f55.pk [1,2,22,23,24];refine wp_seq_k fun _ k2=>?_;refine wp_block ?_;refine C.sk fun _ k3=>?_;refine L.mv f56 fun _ f56=>?_;refine L.ag f56 fun _ f56=>?_;refine wn k3 ?_;have f56:=f56.pk [1,2,3,22,23,24,25];refine RB.begin (S:=fun W=>Kept [] w12 W) 10 (by kernel_rfl) (by exact (Kept.refl _ _).drewN 1) ?_;have s1 : Kept [] w12 (w12.drewN 1):=(Kept.refl _ _).drewN 1;have hd5 : Kept [] w12 (w12.drewN 1):=(Kept.refl _ _).drewN 1;obtain ⟨w13,hww13⟩ : ∃ W,W = w12.drewN 1:=⟨_,rfl⟩;rw [← hww13] at s1 hd5 ⊢;clear hww13;have szw13:=s1.size;refine RB.p 0 f56 rfl s1 (E.fa 3 f56 U40 rfl Zo) fun _ f56=>?_;refine RB.tk 1 f56 rfl s1 (fun W hW=>(E.load f56 U38 rfl rfl ((Bg0.z hW).cl rfl))) fun _ f56=>?_;refine RB.p 2 f56 rfl s1 (E.move f56 rfl) fun _ f56=>?_;refine RB.p 3 f56 rfl s1 (E.fa 3 f56 U40 rfl Zo) fun _ f56=>?_;refine RB.tk 4 f56 rfl s1 (fun W hW=>(E.load f56 U38 rfl rfl ((Bg0.z hW).cl rfl))) fun _ f56=>?_;refine RB.p 5 f56 rfl s1 (E.move f56 rfl) fun _ f56=>?_;refine RB.p 6 f56 rfl s1 (E.indexA f56 (by assumption) U38 Zh rfl rfl (by omega) (by omega)) fun _ f56=>?_;refine RB.p 7 f56 rfl s1 (E.fa 7 f56 U48 rfl Zk) fun _ f56=>?_
  refine RB.tk 8 f56 rfl s1 (fun W hW=>(E.load f56 U25 rfl rfl (cel_at ((FC).kept hW (by simp)) hA hx (by omega) 7 _ rfl))) fun _ f56=>?_;refine RB.cl 9 f56 rfl (rc1 f56 Tryz.call32) (cloneB_any p.x.pay _ _ _ (((TO.p p hpm).kept HK).kept s1).sl (sm_pay hl TS.p p (List.mem_of_getElem? hx))) ?_;rintro e w14 ⟨q1,Ab,cb,rfl,FB⟩;replace s1:=s1.trans q1 (by simp);refine ⟨_,rfl,s1,fun _ f56=>?_⟩;have szw14:=q1.size;clear q1;refine RB.stop (by kernel_rfl) ?_;have szw14r:=s1.size;replace HK:=HK.z s1;replace Bg0:=Bg0.z s1;replace Bg1:=Bg1.z s1;replace FD:=FD.kept0 s1;replace FF:=FF.kept0 s1;replace FE:=FE.kept0 s1;replace FC:=FC.kept0 s1;replace hP:=hP.kept s1;clear s1;refine R.p 10 f56 rfl trivial (E.indexA f56 (by assumption) U38 Zh rfl rfl (by omega) (by omega)) fun _ f56=>?_;refine R.p 11 f56 rfl trivial (E.fa 7 f56 U48 rfl Zk) fun _ f56=>?_;refine R.on 12 ?_;refine OT.storeFC f56 rfl wantedN Zk hA FC (j:=k * 10 + 7) rfl (by omega) (by rw [pcells_len]; omega) rfl rfl fun _ w15 f56 FS ks loS=>?_;have szw15:=ks.size;rw [pcells_set l k p Ab cb hx] at FS;obtain ⟨hbw,cs0,hbc⟩:=FC.own.blk b ((own_block _ _ _ b).2 (by rw [hA]; rfl));have hPn : PayOk w15 ⟨p.x,Ab,cb⟩:=(Fresh.pay FB rfl).kept1 ks hbc (by decide);have hPa : PM w15 t.cel k l:=hP.kept1 ks hbc (by decide);have hg0 : b ≠ g0:=fun e=>by subst e; rw [show _ = _ from Bg0] at hbc; injection hbc with hbc; injection hbc with _ h2 _; exact absurd h2 (by decide)
  replace FD:=FD.kept ks (fun q hq=>by simp only [List.mem_singleton]; exact fr_ne FD hbc hq (by decide));replace FF:=FF.kept ks (fun q hq=>by simp only [List.mem_singleton]; exact fr_ne FF hbc hq (by decide));replace FE:=FE.kept ks (fun q hq=>by simp only [List.mem_singleton]; exact fr_ne FE hbc hq (by decide));replace Bg0:=Bg0.kept ks (by simp only [List.mem_singleton]; exact fun e=>hg0 e.symm);replace Bg1:=Bg1.kept ks (by simp only [List.mem_singleton]; rintro rfl; rw [show _ = _ from Bg1] at hbc; injection hbc with hbc; injection hbc with _ h2 _; exact absurd h2 (by decide));replace HK:=HK.trans ks (by intro x hx hlt; simp at hx; subst hx; exfalso; omega);refine R.done (by kernel_rfl) (k2 _ _ ?_);have f56:=f56.pk [1,2,3,22,23,24,25,26,27,28,29,30,31,32,33,34,35,36,37];refine C.region ?_;refine L.va f56 (E.add f56 rfl rfl (IntWalk.i64_in _ (by omega))) fun _ f56=>?_;refine L.mv f56 fun _ f56=>?_;refine wpList_nil (hKL4 _ _ (gk5 - 1) ?_ ?_)
  ·omega
  exact ⟨k + 1,l.set k ⟨p.x,Ab,cb⟩,by omega,by rw [List.map_set]; rw [← hl]; exact set_same hx,hPa.set hPn,by simpa [hll] using FS,FD,FF,FE,HK,Bg0,Bg1,f56.sub (sx (sx (sx (sx sn))))⟩
 have hend:=h0;refine C.condF f55 rfl ?_;refine wp_exit (k1 _ _ ?_);have f55:=f55.pk [1,2];refine C.sk fun _ k1=>?_;refine L.va f55 (E.loadB f55 U40 rfl Zp rfl (Bg0) rfl) fun _ f55=>?_;refine L.storeR f55 wantedN Zp rfl rfl rfl Bg1 rfl rfl fun _ w13 f55 NB13 ks13=>?_;have szw13:=ks13.size;replace HK:=HK.trans ks13 (by intro x hx hlt; simp at hx; subst hx; (exfalso; omega));replace Bg0:=Bg0.kn ks13;replace FD:=FD.kept ks13 (fun q hq=>by simp only [List.mem_singleton]; exact fr_ne FD Bg1 hq (by decide));replace FF:=FF.kept ks13 (fun q hq=>by simp only [List.mem_singleton]; exact fr_ne FF Bg1 hq (by decide));replace FE:=FE.kept ks13 (fun q hq=>by simp only [List.mem_singleton]; exact fr_ne FE Bg1 hq (by decide));replace FC:=FC.kept ks13 (fun q hq=>by simp only [List.mem_singleton]; exact fr_ne FC Bg1 hq (by decide));replace hP:=hP.kept1 ks13 Bg1 (by decide);replace Bg1:=NB13;clear ks13;have f55:=f55.pk [2];refine wn k1 (wp_ret ?_); (try simp only [xt,xb]); refine C.retC f55 rfl rfl Bg1 U40 rfl Zp ?_;exact ⟨HK,⟨t.seen,t.fen,t.rou,l,Ad,cd,Af,cf,Ae,ce,Ac,cc'⟩,by rw [← hll],⟨FD,FF,FE,FC,hP.all (by omega)⟩,rfl,rfl,rfl,hl⟩
end Go.Proofs.YtekmhcdgmgbheaaGreatDoor
namespace Go.Proofs.YtekmhcdgmgbheaaGreatDoor
open Go.RowKit Go.Hub Go.Lib
theorem Zq (x0 : Int) (x1 : Int) (x2 : Int) : Tryz.prog.built 46 [(0,.int .i64 x0),(1,.int .i64 x1),(2,.int .i64 x2)] = some #[.int .i64 x0,.int .i64 x1,.int .i64 x2]:=by kernel_rfl
section
variable {P : Program} {a : Act} {w : World} {n : Nat} {l : FL} {fn : Func} {R : Ending → World → Prop}
theorem _root_.Go.Hub.C.retCC (f : Fr n a l) {p u : Tmp} {ty ty' : TypeId} (hr : fn.results = #[.cell p ty, .cell u ty']) {g g' : Nat} {cs cs' : Array Value} {t t' : TypeId} {d d' : TypeDesc} (hp : Go.Hub.look l p = some (.pointer (some ⟨g, 0, none⟩))) (hq : Go.Hub.look l u = some (.pointer (some ⟨g', 0, none⟩))) (B : Blk w g t cs) (B' : Blk w g' t' cs')
    (hu : P.underlying ty = some d) (hd : (match d with | .struct _ | .array _ _=>true | _=>false) = true) (hi : (P.info? ty).map (·.size) = some cs.size)
    (hu' : P.underlying ty' = some d') (hd' : (match d' with | .struct _ | .array _ _=>true | _=>false) = true) (hi' : (P.info? ty').map (·.size) = some cs'.size) (h : R (.returned (.tuple #[.agg cs,.agg cs'])) w) : bodyPost P fn R .ret a w:=by
  refine bodyPost_ret (v:=.tuple #[.agg cs,.agg cs']) ?_ f.defers h;have hl:=run_loadVar_row (P:=P) w g t ty cs (0,0) d B hu hd hi;have hl':=run_loadVar_row (P:=P) w g' t' ty' cs' (0,0) d' B' hu' hd' hi';have hp' : a.tmps[p]?.getD undef = .pointer (some ⟨g,0,none⟩):=by simpa using f.get hp
  have hq' : a.tmps[u]?.getD undef = .pointer (some ⟨g',0,none⟩):=by simpa using f.get hq
  simp [results,hr,hp',hq',asAddr,Sem.run_bind,Result.andThen,hl,hl']
end
def NextPost (t : Tm) (x y : Int) (w : World) (e : Ending) (w' : World) : Prop:=Kept [] w w' ∧ ∃ t' : Tm,e = .returned (.tuple #[.agg (tcell t').toArray,.agg (dcell ⟨x,y,topR t.seen x y + 1⟩).toArray]) ∧ TmNew w w' t' ∧ t'.seen = addD t.seen ⟨x,y,topR t.seen x y + 1⟩ ∧ t'.fen = t.fen ∧ t'.rou = t.rou ∧ t'.cel.map Cp.x = t.cel.map Cp.x
theorem topR_nn (l : List Dt) (x y : Int) : 0 ≤ topR l x y:=by
  unfold topR
  split
  · rename_i h
    unfold topI
    split
    · rename_i q hq
      have:=(rises h).2 q (List.mem_of_find?_eq_some hq);simp [mayB] at this;omega
    exact Int.le_refl _
  exact Int.le_refl _
theorem Top_as {l l' : List Dt} (e : l = l') (A : Option Addr) (c : Nat) (x y : Int) (w : World) (A1 : Ds w A l) (hm : l'.length ≤ 1000000) : Calls Tryz.prog 66 #[.slice A l.length c,.int .i64 x,.int .i64 y] w (fun e w'=>Kept [] w w' ∧ e = .returned (.int .i64 (topR l' x y))):=by subst e; exact Top_any l A c x y w A1 hm
theorem Add_as {l l' : List Dt} (e : l = l') (A : Option Addr) (c : Nat) (d : Dt) (w : World) (A1 : Ds w A l) (hm : l'.length ≤ 1000000) : Calls Tryz.prog 67 #[.slice A l.length c,.agg (dcell d).toArray] w (DotsPost (addD l' d) w):=by subst e; exact Add_any l A c d w A1 hm
def _root_.Go.Hub.Tm.on (t : Tm) (q : Nat) : Prop:=t.sA.map (·.block) = some q ∨ t.fA.map (·.block) = some q ∨ t.rA.map (·.block) = some q ∨ t.cA.map (·.block) = some q
section
variable {w0 w w' : World} {t : Tm} {L : List Nat}
theorem _root_.Go.Hub.TmNew.lo (h : TmNew w0 w t) : ∀ q,t.on q → w0.heap.size ≤ q:=fun q hq=>by
  rcases hq with hq | hq | hq | hq
  · exact h.s.lo q hq
  · exact h.f.lo q hq
  · exact h.r.lo q hq
  exact h.c.lo q hq
theorem fr_hi {e size n c : Nat} {A : Option Addr} {xs : List Value} (F : Fresh w0 w e size A n c xs) {q : Nat} (hq : A.map (·.block) = some q) : q < w.heap.size:=(F.own.blk q ((own_block _ _ _ q).2 hq)).1
theorem _root_.Go.Hub.TmNew.hi (h : TmNew w0 w t) : ∀ q,t.on q → q < w.heap.size:=fun q hq=>by
  rcases hq with hq | hq | hq | hq
  · exact fr_hi h.s hq
  · exact fr_hi h.f hq
  · exact fr_hi h.r hq
  exact fr_hi h.c hq
theorem _root_.Go.Hub.TmNew.keptO (h : TmNew w0 w t) (hk : Kept L w w') (ho : ∀ q,t.on q → q ∉ L) (h5 : ∀ k ∈ L,¬ Typ w k [5]) : TmNew w0 w' t:=
  ⟨h.s.kept hk (fun q hq=>ho q (.inl hq)),h.f.kept hk (fun q hq=>ho q (.inr (.inl hq))),h.r.kept hk (fun q hq=>ho q (.inr (.inr (.inl hq)))),h.c.kept hk (fun q hq=>ho q (.inr (.inr (.inr hq)))),fun x hx=>(h.p x hx).keptF hk h5⟩
end
theorem Next_any (t : Tm) (x y : Int) (w : World) (TO : TmOk w t) (TS : TmSm t) (hN : topR t.seen x y ≤ 1000000000) : Calls Tryz.prog 31 #[.agg (tcell t).toArray,.int .i64 x,.int .i64 y] w (NextPost t x y w):=by
 have HK : Kept [] w w:=Kept.refl [] w;have hN0 : 0 ≤ topR t.seen x y:=topR_nn t.seen x y;refine C.enter Tryz.func31 rfl Tryz.ntmps31 rfl ?_;intro a f34;have f34 : Fr 27 a [(0,.agg (tcell t).toArray),(1,.int .i64 x),(2,.int .i64 y)]:=f34;refine C.sk fun _ k1=>?_;refine L.box f34 wantedN (by decide) rfl rfl fun _ w1 g0 N f34=>?_;obtain ⟨Bg0,q1,log0,ltg0,szw1⟩:=N.al;replace HK:=HK.z q1;clear N q1;refine L.alloc f34 wantedN (by decide) (z:=(.agg #[(.slice none 0 0),(.slice none 0 0),(.slice none 0 0),(.slice none 0 0)])) (fun _=>by kernel_rfl) rfl fun _ w2 g1 N f34=>?_;obtain ⟨Bg1,q1,log1,ltg1,szw2⟩:=N.al;have neg0_g1 : g0 ≠ g1:=by have:=Bg0.lt; omega
 replace HK:=HK.z q1;replace Bg0:=Bg0.z q1;clear N q1;refine L.alloc f34 wantedN (by decide) (z:=(.agg #[(.int .i64 0),(.int .i64 0),(.int .i64 0)])) (fun _=>by kernel_rfl) rfl fun _ w3 g2 N f34=>?_;obtain ⟨Bg2,q1,log2,ltg2,szw3⟩:=N.al;have neg0_g2 : g0 ≠ g2:=by have:=Bg0.lt; omega
 have neg1_g2 : g1 ≠ g2:=by have:=Bg1.lt; omega
 replace HK:=HK.z q1;replace Bg0:=Bg0.z q1;replace Bg1:=Bg1.z q1;clear N q1;have f34:=f34.pk [1,2,3,6,7];refine wn k1 (C.sk fun _ k1=>?_);refine L.va f34 (E.loadB f34 U40 rfl Zp rfl (Bg0) rfl) fun _ f34=>?_;refine L.cl f34 (rc1 f34 Tryz.call30) (Copy_any t w3 (TO.kept HK) TS) ?_;rintro e w4 ⟨q1,t1,rfl,TN,ts⟩;have hon : ∀ q,t1.on q → q ≠ g0 ∧ q ≠ g1 ∧ q ≠ g2:=fun q hq=>by have:=TN.lo q hq; omega
 have TN:=TN.lower (w1:=w) (by have:=HK.size; omega);have hs1:=ts.1;refine ⟨_,rfl,fun _ f34=>?_⟩;have szw4:=q1.size;replace HK:=HK.z q1;replace Bg0:=Bg0.z q1;replace Bg1:=Bg1.z q1;replace Bg2:=Bg2.z q1;clear q1;refine L.storeR f34 wantedN Zp rfl rfl rfl Bg0 rfl rfl fun _ w5 f34 NB5 ks5=>?_;have szw5:=ks5.size;replace HK:=HK.nn ks5 (by omega);replace Bg1:=Bg1.kn ks5;replace Bg2:=Bg2.kn ks5;replace TN:=TN.keptO ks5 (fun q hq=>by have h1:=hon q hq; (try have h2:=hob q hq); simp only [List.mem_singleton]; omega) (fun k hk=>by obtain rfl:=List.mem_singleton.1 hk; exact not_typ Bg0 (by decide));replace Bg0:=NB5;clear ks5;refine wn k1 ?_;have f34:=f34.pk [1,2,3,6,7];refine wp_seq_k fun _ k1=>?_;have hob : ∀ q,t1.on q → q < w5.heap.size:=fun q hq=>TN.hi q hq;refine C.region ?_;refine L.mv f34 fun _ f34=>?_;refine L.mv f34 fun _ f34=>?_;refine L.fa 0 f34 U40 rfl Zl fun _ f34=>?_;refine L.va f34 (E.load f34 U32 rfl rfl ((Bg0).cl rfl)) fun _ f34=>?_;refine L.mv f34 fun _ f34=>?_;refine L.mv f34 fun _ f34=>?_;refine L.cl f34 (rc3 f34 Tryz.call66) (Top_as hs1 _ _ x y _ TN.ok.s TS.s) ?_;rintro e w6 ⟨q1,rfl⟩;refine ⟨_,rfl,fun _ f34=>?_⟩;have szw6:=q1.size;replace HK:=HK.z q1;replace Bg1:=Bg1.z q1;replace Bg2:=Bg2.z q1;replace TN:=TN.kept q1;replace Bg0:=Bg0.z q1;clear q1;refine L.va f34 (E.add f34 rfl rfl (IntWalk.i64_in _ (by omega))) fun _ f34=>?_
 refine L.va f34 (E.build f34 (parts3 f34 rfl rfl rfl) (Zq _ _ _)) fun _ f34=>?_;refine L.alloc f34 wantedN (by decide) (z:=(.agg #[(.int .i64 0),(.int .i64 0),(.int .i64 0)])) (fun _=>by kernel_rfl) rfl fun _ w7 g6 N f34=>?_;obtain ⟨Bg6,q1,log6,ltg6,szw7⟩:=N.al;have neg1_g6 : g1 ≠ g6:=by have:=Bg1.lt; omega
 have neg2_g6 : g2 ≠ g6:=by have:=Bg2.lt; omega
 have neg0_g6 : g0 ≠ g6:=by have:=Bg0.lt; omega
 replace HK:=HK.z q1;replace Bg1:=Bg1.z q1;replace Bg2:=Bg2.z q1;replace TN:=TN.kept q1;replace Bg0:=Bg0.z q1;clear N q1;refine L.storeR f34 wantedN Z3 rfl rfl rfl Bg6 rfl rfl fun _ w8 f34 NB8 ks8=>?_;have szw8:=ks8.size;replace HK:=HK.nn ks8 (by omega);replace Bg1:=Bg1.kn ks8;replace Bg2:=Bg2.kn ks8;replace TN:=TN.keptO ks8 (fun q hq=>by have h1:=hon q hq; (try have h2:=hob q hq); simp only [List.mem_singleton]; omega) (fun k hk=>by obtain rfl:=List.mem_singleton.1 hk; exact not_typ Bg6 (by decide));replace Bg0:=Bg0.kn ks8;replace Bg6:=NB8;clear ks8;have f34:=f34.pk [3,6,7,8];refine wn k1 (C.sk fun _ k1=>?_);refine L.fa 0 f34 U40 rfl Zl fun _ f34=>?_;refine L.va f34 (E.load f34 U32 rfl rfl ((Bg0).cl rfl)) fun _ f34=>?_;refine L.va f34 (E.loadB f34 U46 rfl Z3 rfl (Bg6) rfl) fun _ f34=>?_;refine L.cl f34 (rc2 f34 Tryz.call67) (Add_as hs1 _ _ ⟨x,y,topR t.seen x y + 1⟩ _ TN.ok.s TS.s) ?_;rintro e w9 ⟨q1,As,cs,rfl,FS⟩;have hfs : ∀ q,As.map (·.block) = some q → q ≠ g0 ∧ q ≠ g1 ∧ q ≠ g2 ∧ q ≠ g6:=fun q hq=>by have:=FS.lo q hq; omega
 have FS:=FS.lower (w0:=w) (by have:=HK.size; omega);refine ⟨_,rfl,fun _ f34=>?_⟩;have szw9:=q1.size;replace HK:=HK.z q1;replace Bg1:=Bg1.z q1;replace Bg2:=Bg2.z q1;replace TN:=TN.kept q1;replace Bg0:=Bg0.z q1;replace Bg6:=Bg6.z q1;clear q1;refine L.fa 0 f34 U40 rfl Zl fun _ f34=>?_;refine L.store f34 wantedN Zl rfl rfl rfl Bg0 (by (simp [Value.cells]; done)) fun _ w10 f34 NB10 ks10=>?_;have szw10:=ks10.size;replace HK:=HK.nn ks10 (by omega);replace Bg1:=Bg1.kn ks10;replace Bg2:=Bg2.kn ks10;replace TN:=TN.keptO ks10 (fun q hq=>by have h1:=hon q hq; (try have h2:=hob q hq); simp only [List.mem_singleton]; omega) (fun k hk=>by obtain rfl:=List.mem_singleton.1 hk; exact not_typ Bg0 (by decide));replace Bg6:=Bg6.kn ks10;replace FS:=FS.kept ks10 (fun q hq=>by have h1:=hfs q hq; simp; omega);replace Bg0:=NB10;simp only [Value.cells,List.setIfInBounds_toArray,List.set_cons_zero,List.set_cons_succ,Nat.reduceAdd,Nat.zero_add] at Bg0;clear ks10;refine wn k1 ?_;have f34:=f34.pk [3,6,7,8];refine wp_seq_k fun _ k1=>?_
 have hn : ∀ k ∈ [g1,g2],¬ Typ w10 k [5]:=fun k hk=>by
  rcases List.mem_cons.1 hk with rfl | hk
  ·exact not_typ Bg1 (by decide)
  obtain rfl:=List.mem_singleton.1 hk; exact not_typ Bg2 (by decide)
 refine R.begin (S:=fun W=>Kept [g1,g2] w10 W) (by kernel_rfl) (by exact (Kept.refl _ _).drewN 1) ?_;have s1 : Kept [g1,g2] w10 (w10.drewN 1):=(Kept.refl _ _).drewN 1;have hd4 : Kept [] w10 (w10.drewN 1):=(Kept.refl _ _).drewN 1;obtain ⟨w11,hww11⟩ : ∃ W,W = w10.drewN 1:=⟨_,rfl⟩;rw [← hww11] at s1 hd4 ⊢;clear hww11;have szw11:=s1.size;replace Bg1:=Bg1.kept hd4 (by (simp; done));replace Bg2:=Bg2.kept hd4 (by (simp; done));refine R.t 0 f34 rfl s1 (fun W hW=>(E.loadB f34 U40 rfl Zp rfl (Bg0.kept hW (by simp; omega)) rfl)) fun _ f34=>?_;refine R.t 1 f34 rfl s1 (fun W hW=>(E.loadB f34 U46 rfl Z3 rfl (Bg6.kept hW (by simp; omega)) rfl)) fun _ f34=>?_;refine R.storeR 2 f34 rfl (by kernel_rfl) wantedN Zp rfl rfl rfl Bg1 rfl rfl (fun _ hW=>s1.trans hW (by (simp; done))) fun _ w12 f34 NB12 ks12 hSn=>?_;have szw12:=ks12.size;replace Bg2:=Bg2.kept ks12 (by (simp; omega));replace Bg1:=NB12;replace s1:=hSn;clear hSn ks12;refine R.storeR 3 f34 rfl (by kernel_rfl) wantedN Z3 rfl rfl rfl Bg2 rfl rfl (fun _ hW=>s1.trans hW (by (simp; done))) fun _ w13 f34 NB13 ks13 hSn=>?_;have szw13:=ks13.size;replace Bg1:=Bg1.kept ks13 (by (simp; omega));replace Bg2:=NB13;replace s1:=hSn;clear hSn ks13;have szw13r:=s1.size;replace HK:=HK.trans s1 (by intro x hx hlt; simp at hx; omega);replace TN:=TN.keptO s1 (fun q hq=>by have h1:=hon q hq; have h2:=hob q hq; simp only [List.mem_cons,List.not_mem_nil,or_false]; omega) hn
 replace Bg6:=Bg6.kept s1 (by simp; omega);replace FS:=FS.kept s1 (fun q hq=>by have h1:=hfs q hq; simp; omega);replace Bg0:=Bg0.kept s1 (by simp; omega);clear s1;refine R.done (by kernel_rfl) (k1 _ _ ?_);have f34:=f34.pk [6,7];refine wp_ret ?_; (try simp only [xt,xb]); refine C.retCC f34 rfl rfl rfl Bg1 Bg2 U40 rfl Zp U46 rfl Z3 ?_;exact ⟨HK,⟨addD t.seen ⟨x,y,topR t.seen x y + 1⟩,t1.fen,t1.rou,t1.cel,As,cs,t1.fA,t1.fc,t1.rA,t1.rc,t1.cA,t1.cc⟩,rfl,⟨FS,TN.f,TN.r,TN.c,TN.p⟩,rfl,ts.2.1,ts.2.2.1,ts.2.2.2⟩
end Go.Proofs.YtekmhcdgmgbheaaGreatDoor
