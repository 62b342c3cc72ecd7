/- Merged by program (shrink.py): contracts and plain laws that the claim's statement uses, part 2. -/
import Derived.Test.YtkdeedhjkjffpaaGreatMa1
set_option linter.all false
set_option maxRecDepth 100000
set_option maxHeartbeats 8000000

namespace Go.Proofs.YtkdeedhjkjffpaaGreat
open Go.RowKit Go.Hub Go.Lib
section
variable (b off cap : Nat) (l : List UInt8) (w : World) (hne : 0 < l.length) (hbig : l.length ≤ maxLen)
  (hc : ∀ j,j < l.length → w.cell? ⟨b,off + j,none⟩ = some (.int .u8 ((l.getD j 0).toNat : Int)))
include hne hc hbig in
theorem y2y (ha : 192 ≤ (l.getD 0 0).toNat) (hb : (l.getD 0 0).toNat < 224) (hl : 2 ≤ l.length) : Calls Tryz.prog 105 #[.slice (some ⟨b,off,none⟩) l.length cap] w fun e w'=>e = .returned (H7 l) ∧ w' = w:=by
  have hcl : Yo (l.getD 0 0).toNat 2 32 128:=by unfold Yo; omega
  have h0:=hc 0 hne;rw [Nat.add_zero] at h0;have HC:=Fj hc;have HB:=Fj (fun k (h1 : 1 ≤ k) (h2 : k ≤ 2)=>x4e hcl k h1 h2);have HK:=Fj hcl;have hlt:=(l.getD 0 0).toNat_lt;have hl2 : (0 : Int) < (l.length : Int):=by omega
  have H1:=Fj (W2 l 32);obtain ⟨x,hx⟩ : ∃ x,x = (l.getD 0 0).toNat:=⟨_,rfl⟩;rw [← hx] at h0 hlt H1 ha hb;have hm:=y2c ⟨x,hlt⟩;unfold maxLen at hbig;clear hc hx hcl;have hi : ¬ (x : Int) < 128:=by omega
  have hi2 : (192 : Int) ≤ x:=by omega
  have hi4 : (x : Int) < 224:=by omega
  have hi5 : ¬ (l.length : Int) < 2:=by omega
  go_enter Tryz.func105,Tryz.ntmps105
  go_wp2
  clear hm
  go_loopg [8,9] 1 (fun g r i wr=>∃ k : Nat,1 ≤ k ∧ k + g = 2 ∧ i = .int .i64 k ∧ r = .int .i32 (ac l 32 k) ∧ (∀ j,1 ≤ j → j < k → (l.getD j 0).toNat / 64 = 2) ∧ w = wr)
  case atStart=>exact ⟨1,by omega,rfl,rfl,by rw [H1.out]; rfl,fun j h1 h2=>by omega,rfl⟩
  case round=>
    obtain ⟨k,hk1,hk2,rfl,rfl,hcont,rfl⟩:=hrel;have HCT:=Fj hcont;have hbd:=HB.out k hk1 (by omega);obtain ⟨r,hr⟩ : ∃ r,r = ac l 32 k:=⟨_,rfl⟩;rw [← hr] at hbd ⊢;have HR:=Fj hr;clear hcont hr
    by_cases hlt2 : k < 2
    · have hcell := HC.out k (by omega)
      have hk3 : (k : Int) < 2:=by omega
      have hk4 : (k : Int) < (l.length : Int):=by omega
      have hzl:=(l.getD k 0).toNat_lt;have hr3:=hbd.2 hlt2;obtain ⟨z,hz⟩ : ∃ z,z = (l.getD k 0).toNat:=⟨_,rfl⟩;rw [← hz] at hcell hzl;have HZ:=Fj hz;have hmh:=x4h ⟨z,hzl⟩;have hml:=x4g ⟨z,hzl⟩;simp only [] at hmh hml;have hor : bits .or .i32 ((r : Int) * 64) ((z % 64 : Nat) : Int) = (r : Int) * 64 + ((z % 64 : Nat) : Int):=W3 6 _ _ (by omega) (by omega) (by omega) (by omega) (by omega) (by omega);have HI:=Fj hk2;clear hz hk2 hbd
      by_cases hz2 : z / 64 = 2
      · have hq : ((z / 64 * 64 : Nat) : Int) = 128 := by omega
        rw [hq] at hmh;have HQ:=Fj hz2;clear hz2 hq
        go_wp2
        go_roundg (gk - 1)
        case measure=>have:=HI.out; omega
        case rel=>
          refine ⟨k + 1,by omega,by have:=HI.out; omega,by go_num,?_,fun j h1 h2=>?_,rfl⟩
          · rw [Tn l 32 k hk1, ← HR.out, ← HZ.out]
            congr 1
          rcases Nat.lt_or_ge j k with h | h
          · exact HCT.out j h1 h
          obtain rfl : j = k:=by omega
          rw [← HZ.out]; exact HQ.out
      have hq : (((z / 64 * 64 : Nat) : Int) != 128) = true:=by simp; omega
      have HS:=Fj (Ff (Jr HK.out hk1 hlt2 (by rw [← HZ.out]; exact hz2)));clear hz2
      go_wp2
      go_ret3
      exact ⟨by rw [HS.out]; rfl,rfl⟩
    obtain rfl : k = 2:=by omega
    have HD:=Fj (Mi HK.out hl HCT.out);rw [← HR.out] at HD;clear hlt2 hk2;have hr9:=hbd.1;clear hbd
    by_cases hg : 128 ≤ r ∧ r ≤ 1114111 ∧ ¬ (55296 ≤ r ∧ r < 57344)
    · have HS := Fj (Kg (HD.out.trans (if_pos hg)) (by omega))
      obtain ⟨g1,g2,g3⟩:=hg;have i1 : ¬ (r : Int) < 128:=by omega
      have i2 : ¬ (1114111 : Int) < r:=by omega
      by_cases g4 : r < 55296
      · have i3 : ¬ (55296 : Int) ≤ r := by omega
        clear g1 g2 g3 g4
        go_wp2
        go_ret3
        exact ⟨by rw [HS.out]; rfl,rfl⟩
      have i3 : (55296 : Int) ≤ r:=by omega
      have i4 : ¬ (r : Int) < 57344:=by omega
      clear g1 g2 g3 g4
      go_wp2
      go_ret3
      exact ⟨by rw [HS.out]; rfl,rfl⟩
    have HS:=Fj (Ff (HD.out.trans (if_neg hg)))
    by_cases g1 : r < 128
    · have i1 : (r : Int) < 128 := by omega
      clear g1 hg
      go_wp2
      all_goals (go_ret3; exact ⟨by rw [HS.out]; rfl,rfl⟩)
    have i1 : ¬ (r : Int) < 128:=by omega
    by_cases g2 : r ≤ 1114111
    · have i2 : ¬ (1114111 : Int) < r := by omega
      have i3 : (55296 : Int) ≤ r:=by omega
      have i4 : (r : Int) < 57344:=by omega
      clear g1 hg g2
      go_wp2
      go_ret3
      exact ⟨by rw [HS.out]; rfl,rfl⟩
    have i2 : (1114111 : Int) < r:=by omega
    clear g1 hg g2
    go_wp2
    all_goals (go_ret3; exact ⟨by rw [HS.out]; rfl,rfl⟩)
include hne hc hbig in
theorem y2z (ha : 224 ≤ (l.getD 0 0).toNat) (hb : (l.getD 0 0).toNat < 240) (hl : 3 ≤ l.length) : Calls Tryz.prog 105 #[.slice (some ⟨b,off,none⟩) l.length cap] w fun e w'=>e = .returned (H7 l) ∧ w' = w:=by
  have hcl : Yo (l.getD 0 0).toNat 3 16 2048:=by unfold Yo; omega
  have h0:=hc 0 hne;rw [Nat.add_zero] at h0;have HC:=Fj hc;have HB:=Fj (fun k (h1 : 1 ≤ k) (h2 : k ≤ 3)=>x4e hcl k h1 h2);have HK:=Fj hcl;have hlt:=(l.getD 0 0).toNat_lt;have hl2 : (0 : Int) < (l.length : Int):=by omega
  have H1:=Fj (W2 l 16);obtain ⟨x,hx⟩ : ∃ x,x = (l.getD 0 0).toNat:=⟨_,rfl⟩;rw [← hx] at h0 hlt H1 ha hb;have hm:=y2d ⟨x,hlt⟩;unfold maxLen at hbig;clear hc hx hcl;have hi : ¬ (x : Int) < 128:=by omega
  have hi2 : (224 : Int) ≤ x:=by omega
  have hi4 : (x : Int) < 240:=by omega
  have hi5 : ¬ (l.length : Int) < 3:=by omega
  go_enter Tryz.func105,Tryz.ntmps105
  go_wp2
  clear hm
  go_loopg [8,9] 2 (fun g r i wr=>∃ k : Nat,1 ≤ k ∧ k + g = 3 ∧ i = .int .i64 k ∧ r = .int .i32 (ac l 16 k) ∧ (∀ j,1 ≤ j → j < k → (l.getD j 0).toNat / 64 = 2) ∧ w = wr)
  case atStart=>exact ⟨1,by omega,rfl,rfl,by rw [H1.out]; rfl,fun j h1 h2=>by omega,rfl⟩
  case round=>
    obtain ⟨k,hk1,hk2,rfl,rfl,hcont,rfl⟩:=hrel;have HCT:=Fj hcont;have hbd:=HB.out k hk1 (by omega);obtain ⟨r,hr⟩ : ∃ r,r = ac l 16 k:=⟨_,rfl⟩;rw [← hr] at hbd ⊢;have HR:=Fj hr;clear hcont hr
    by_cases hlt2 : k < 3
    · have hcell := HC.out k (by omega)
      have hk3 : (k : Int) < 3:=by omega
      have hk4 : (k : Int) < (l.length : Int):=by omega
      have hzl:=(l.getD k 0).toNat_lt;have hr3:=hbd.2 hlt2;obtain ⟨z,hz⟩ : ∃ z,z = (l.getD k 0).toNat:=⟨_,rfl⟩;rw [← hz] at hcell hzl;have HZ:=Fj hz;have hmh:=x4h ⟨z,hzl⟩;have hml:=x4g ⟨z,hzl⟩;simp only [] at hmh hml;have hor : bits .or .i32 ((r : Int) * 64) ((z % 64 : Nat) : Int) = (r : Int) * 64 + ((z % 64 : Nat) : Int):=W3 6 _ _ (by omega) (by omega) (by omega) (by omega) (by omega) (by omega);have HI:=Fj hk2;clear hz hk2 hbd
      by_cases hz2 : z / 64 = 2
      · have hq : ((z / 64 * 64 : Nat) : Int) = 128 := by omega
        rw [hq] at hmh;have HQ:=Fj hz2;clear hz2 hq
        go_wp2
        go_roundg (gk - 1)
        case measure=>have:=HI.out; omega
        case rel=>
          refine ⟨k + 1,by omega,by have:=HI.out; omega,by go_num,?_,fun j h1 h2=>?_,rfl⟩
          · rw [Tn l 16 k hk1, ← HR.out, ← HZ.out]
            congr 1
          rcases Nat.lt_or_ge j k with h | h
          · exact HCT.out j h1 h
          obtain rfl : j = k:=by omega
          rw [← HZ.out]; exact HQ.out
      have hq : (((z / 64 * 64 : Nat) : Int) != 128) = true:=by simp; omega
      have HS:=Fj (Ff (Jr HK.out hk1 hlt2 (by rw [← HZ.out]; exact hz2)));clear hz2
      go_wp2
      go_ret3
      exact ⟨by rw [HS.out]; rfl,rfl⟩
    obtain rfl : k = 3:=by omega
    have HD:=Fj (Mi HK.out hl HCT.out);rw [← HR.out] at HD;clear hlt2 hk2;have hr9:=hbd.1;clear hbd
    by_cases hg : 2048 ≤ r ∧ r ≤ 1114111 ∧ ¬ (55296 ≤ r ∧ r < 57344)
    · have HS := Fj (Kg (HD.out.trans (if_pos hg)) (by omega))
      obtain ⟨g1,g2,g3⟩:=hg;have i1 : ¬ (r : Int) < 2048:=by omega
      have i2 : ¬ (1114111 : Int) < r:=by omega
      by_cases g4 : r < 55296
      · have i3 : ¬ (55296 : Int) ≤ r := by omega
        clear g1 g2 g3 g4
        go_wp2
        go_ret3
        exact ⟨by rw [HS.out]; rfl,rfl⟩
      have i3 : (55296 : Int) ≤ r:=by omega
      have i4 : ¬ (r : Int) < 57344:=by omega
      clear g1 g2 g3 g4
      go_wp2
      go_ret3
      exact ⟨by rw [HS.out]; rfl,rfl⟩
    have HS:=Fj (Ff (HD.out.trans (if_neg hg)))
    by_cases g1 : r < 2048
    · have i1 : (r : Int) < 2048 := by omega
      clear g1 hg
      go_wp2
      all_goals (go_ret3; exact ⟨by rw [HS.out]; rfl,rfl⟩)
    have i1 : ¬ (r : Int) < 2048:=by omega
    by_cases g2 : r ≤ 1114111
    · have i2 : ¬ (1114111 : Int) < r := by omega
      have i3 : (55296 : Int) ≤ r:=by omega
      have i4 : (r : Int) < 57344:=by omega
      clear g1 hg g2
      go_wp2
      go_ret3
      exact ⟨by rw [HS.out]; rfl,rfl⟩
    have i2 : (1114111 : Int) < r:=by omega
    clear g1 hg g2
    go_wp2
    all_goals (go_ret3; exact ⟨by rw [HS.out]; rfl,rfl⟩)
include hne hc hbig in
theorem y3a (ha : 240 ≤ (l.getD 0 0).toNat) (hb : (l.getD 0 0).toNat < 248) (hl : 4 ≤ l.length) : Calls Tryz.prog 105 #[.slice (some ⟨b,off,none⟩) l.length cap] w fun e w'=>e = .returned (H7 l) ∧ w' = w:=by
  have hcl : Yo (l.getD 0 0).toNat 4 8 65536:=by unfold Yo; omega
  have h0:=hc 0 hne;rw [Nat.add_zero] at h0;have HC:=Fj hc;have HB:=Fj (fun k (h1 : 1 ≤ k) (h2 : k ≤ 4)=>x4e hcl k h1 h2);have HK:=Fj hcl;have hlt:=(l.getD 0 0).toNat_lt;have hl2 : (0 : Int) < (l.length : Int):=by omega
  have H1:=Fj (W2 l 8);obtain ⟨x,hx⟩ : ∃ x,x = (l.getD 0 0).toNat:=⟨_,rfl⟩;rw [← hx] at h0 hlt H1 ha hb;have hm:=y2e ⟨x,hlt⟩;unfold maxLen at hbig;clear hc hx hcl;have hi : ¬ (x : Int) < 128:=by omega
  have hi2 : (240 : Int) ≤ x:=by omega
  have hi4 : (x : Int) < 248:=by omega
  have hi5 : ¬ (l.length : Int) < 4:=by omega
  go_enter Tryz.func105,Tryz.ntmps105
  go_wp2
  clear hm
  go_loopg [8,9] 3 (fun g r i wr=>∃ k : Nat,1 ≤ k ∧ k + g = 4 ∧ i = .int .i64 k ∧ r = .int .i32 (ac l 8 k) ∧ (∀ j,1 ≤ j → j < k → (l.getD j 0).toNat / 64 = 2) ∧ w = wr)
  case atStart=>exact ⟨1,by omega,rfl,rfl,by rw [H1.out]; rfl,fun j h1 h2=>by omega,rfl⟩
  case round=>
    obtain ⟨k,hk1,hk2,rfl,rfl,hcont,rfl⟩:=hrel;have HCT:=Fj hcont;have hbd:=HB.out k hk1 (by omega);obtain ⟨r,hr⟩ : ∃ r,r = ac l 8 k:=⟨_,rfl⟩;rw [← hr] at hbd ⊢;have HR:=Fj hr;clear hcont hr
    by_cases hlt2 : k < 4
    · have hcell := HC.out k (by omega)
      have hk3 : (k : Int) < 4:=by omega
      have hk4 : (k : Int) < (l.length : Int):=by omega
      have hzl:=(l.getD k 0).toNat_lt;have hr3:=hbd.2 hlt2;obtain ⟨z,hz⟩ : ∃ z,z = (l.getD k 0).toNat:=⟨_,rfl⟩;rw [← hz] at hcell hzl;have HZ:=Fj hz;have hmh:=x4h ⟨z,hzl⟩;have hml:=x4g ⟨z,hzl⟩;simp only [] at hmh hml;have hor : bits .or .i32 ((r : Int) * 64) ((z % 64 : Nat) : Int) = (r : Int) * 64 + ((z % 64 : Nat) : Int):=W3 6 _ _ (by omega) (by omega) (by omega) (by omega) (by omega) (by omega);have HI:=Fj hk2;clear hz hk2 hbd
      by_cases hz2 : z / 64 = 2
      · have hq : ((z / 64 * 64 : Nat) : Int) = 128 := by omega
        rw [hq] at hmh;have HQ:=Fj hz2;clear hz2 hq
        go_wp2
        go_roundg (gk - 1)
        case measure=>have:=HI.out; omega
        case rel=>
          refine ⟨k + 1,by omega,by have:=HI.out; omega,by go_num,?_,fun j h1 h2=>?_,rfl⟩
          · rw [Tn l 8 k hk1, ← HR.out, ← HZ.out]
            congr 1
          rcases Nat.lt_or_ge j k with h | h
          · exact HCT.out j h1 h
          obtain rfl : j = k:=by omega
          rw [← HZ.out]; exact HQ.out
      have hq : (((z / 64 * 64 : Nat) : Int) != 128) = true:=by simp; omega
      have HS:=Fj (Ff (Jr HK.out hk1 hlt2 (by rw [← HZ.out]; exact hz2)));clear hz2
      go_wp2
      go_ret3
      exact ⟨by rw [HS.out]; rfl,rfl⟩
    obtain rfl : k = 4:=by omega
    have HD:=Fj (Mi HK.out hl HCT.out);rw [← HR.out] at HD;clear hlt2 hk2;have hr9:=hbd.1;clear hbd
    by_cases hg : 65536 ≤ r ∧ r ≤ 1114111 ∧ ¬ (55296 ≤ r ∧ r < 57344)
    · have HS := Fj (Kg (HD.out.trans (if_pos hg)) (by omega))
      obtain ⟨g1,g2,g3⟩:=hg;have i1 : ¬ (r : Int) < 65536:=by omega
      have i2 : ¬ (1114111 : Int) < r:=by omega
      by_cases g4 : r < 55296
      · have i3 : ¬ (55296 : Int) ≤ r := by omega
        clear g1 g2 g3 g4
        go_wp2
        go_ret3
        exact ⟨by rw [HS.out]; rfl,rfl⟩
      have i3 : (55296 : Int) ≤ r:=by omega
      have i4 : ¬ (r : Int) < 57344:=by omega
      clear g1 g2 g3 g4
      go_wp2
      go_ret3
      exact ⟨by rw [HS.out]; rfl,rfl⟩
    have HS:=Fj (Ff (HD.out.trans (if_neg hg)))
    by_cases g1 : r < 65536
    · have i1 : (r : Int) < 65536 := by omega
      clear g1 hg
      go_wp2
      all_goals (go_ret3; exact ⟨by rw [HS.out]; rfl,rfl⟩)
    have i1 : ¬ (r : Int) < 65536:=by omega
    by_cases g2 : r ≤ 1114111
    · have i2 : ¬ (1114111 : Int) < r := by omega
      have i3 : (55296 : Int) ≤ r:=by omega
      have i4 : (r : Int) < 57344:=by omega
      clear g1 hg g2
      go_wp2
      go_ret3
      exact ⟨by rw [HS.out]; rfl,rfl⟩
    have i2 : (1114111 : Int) < r:=by omega
    clear g1 hg g2
    go_wp2
    all_goals (go_ret3; exact ⟨by rw [HS.out]; rfl,rfl⟩)
include hne hc hbig in
theorem x4i : Calls Tryz.prog 105 #[.slice (some ⟨b,off,none⟩) l.length cap] w fun e w'=>e = .returned (H7 l) ∧ w' = w:=by
  by_cases c : (l.getD 0 0).toNat < 128
  · exact W4 b off cap l w hne hbig hc c
  by_cases d : (l.getD 0 0).toNat < 192
  · exact Sd b off cap l w hne hbig hc (by omega) (.inl d)
  by_cases f : 248 ≤ (l.getD 0 0).toNat
  · exact Sd b off cap l w hne hbig hc (by omega) (.inr f)
  by_cases g : (l.getD 0 0).toNat < 224
  · by_cases a : l.length < 2
    · exact Js b off cap l w hne hbig hc 2 32 128 (by unfold Yo; omega) a
    exact y2y b off cap l w hne hbig hc (by omega) g (by omega)
  by_cases h : (l.getD 0 0).toNat < 240
  · by_cases a : l.length < 3
    · exact Js b off cap l w hne hbig hc 3 16 2048 (by unfold Yo; omega) a
    exact y2z b off cap l w hne hbig hc (by omega) h (by omega)
  by_cases a : l.length < 4
  · exact Js b off cap l w hne hbig hc 4 8 65536 (by unfold Yo; omega) a
  exact y3a b off cap l w hne hbig hc (by omega) (by omega) (by omega)
end
end Go.Proofs.YtkdeedhjkjffpaaGreat
namespace Go.Proofs.YtkdeedhjkjffpaaGreat
open Go.RowKit Go.Hub Go.Lib
theorem x4j {E : List TypeId} {B : Nat} {w : World} {A : Option Addr} {n : Nat} {l : List UInt8} (h : Bs E B w A n l) (d : 0 < n) : ∃ b off,A = some ⟨b,off,none⟩ ∧ ∀ j,j < n → w.cell? ⟨b,off + j,none⟩ = some (.int .u8 ((l.getD j 0).toNat : Int)):=by
  obtain ⟨b,off,e,_,_,a⟩:=h.2 d;exact ⟨b,off,e,fun j c=>a j _ (getD_some (by rw [h.1]; exact c))⟩
theorem W5 {b a : Nat} {w : World} {l : List UInt8} (c : ∀ j, j < l.length → w.cell? ⟨b, a + j, none⟩ = some (.int .u8 ((l.getD j 0).toNat : Int))) (i : Nat) :
    ∀ j,j < (l.drop i).length → w.cell? ⟨b,a + i + j,none⟩ = some (.int .u8 (((l.drop i).getD j 0).toNat : Int)):=fun j d=>by
  rw [getD_dropU,Nat.add_assoc]
  exact c _ (by rw [List.length_drop] at d; omega)
theorem x9f (l : List UInt8) (f i : Nat) (hi : i < l.length) (b : l.length - i ≤ f) :
    ∃ f',f = f' + 1 ∧ Qu f i (l.drop i) = if Ur (l.drop i) || (decodeL (l.drop i)).1 == 0 then (i : Int) else Qu f' (i + (decodeL (l.drop i)).2) (l.drop (i + (decodeL (l.drop i)).2)):=by
  obtain ⟨f',rfl⟩ : ∃ f',f = f' + 1:=⟨f - 1,by omega⟩;refine ⟨f',rfl,?_⟩
  have a : l.drop i ≠ []:=by
    intro h;have:=congrArg List.length h;simp at this;omega
  simp only [Qu];rw [if_neg a,List.drop_drop]
theorem Uv (E : List TypeId) (B : Nat) (A : Option Addr) (cap : Nat) (l : List UInt8) (w : World) (h : Bs E B w A l.length l) (hl : l.length ≤ cap) (hcap : cap ≤ maxLen) :
    Calls Tryz.prog 87 #[.slice A l.length cap] w fun e w'=>e = .returned (.int .i64 (chk l)) ∧ w' = w:=by
  unfold maxLen at hcap
  go_enter Tryz.func87,Tryz.ntmps87
  go_wp2
  go_loopg [3] l.length (fun g v wr=>∃ i f : Nat,i + g = l.length ∧ v = .int .i64 i ∧ l.length - i ≤ f ∧ Qu f i (l.drop i) = chk l ∧ w = wr)
  case atStart=>exact ⟨0,l.length,by omega,rfl,by omega,by simp [chk],rfl⟩
  case round=>
    obtain ⟨i,f,hi,rfl,hf,hk,rfl⟩:=hrel;have HK:=Fj hk;clear hk
    by_cases hlt : i < l.length
    · obtain ⟨b, off, rfl, hcell⟩ := x4j h (by omega)
      have HC:=Fj hcell;obtain ⟨f',rfl,hstep⟩:=x9f l f i hlt hf;have HS:=Fj hstep;have HI:=Fj hi;have HF:=Fj hf;have hdl : (l.drop i).length = l.length - i:=List.length_drop;have hw:=decodeL_width (l.drop i);have hle:=decodeL_le (l.drop i) (by intro h; have:=congrArg List.length h; simp at this; omega);have hi2 : (i : Int) < (l.length : Int):=by omega
      have hi3 : (i : Int) ≤ (cap : Int):=by omega
      have hstp:=x4i b (off + i) (cap - i) (l.drop i) w (by omega) (by unfold maxLen; omega) (W5 hcell i);rw [hdl] at hstp hle;clear hcell hstep hi hf hdl h;have hci : ¬ cap = i:=by omega
      go_wp2_with fail
      refine hstp.mono ?_;rintro e w1 ⟨rfl,rfl⟩;obtain ⟨r,hr⟩ : ∃ r,r = decodeL (l.drop i):=⟨_,rfl⟩;unfold H7;rw [← hr] at hw hle ⊢;have HR:=Fj hr;clear hr hstp hlt;cases hb : Ur (l.drop i)
      · by_cases hz : r.1 = 0
        · have hz1 : ((r.1 : Int) == 0) = true := by simp; omega
          have HE:=Fj (show chk l = (i : Int) by rw [← HK.out,HS.out,← HR.out,hz]; simp);clear hz hb
          go_wp2
          go_ret
          exact ⟨by rw [HE.out]; rfl,rfl⟩
        have hz1 : ((r.1 : Int) == 0) = false:=by simp; omega
        have HE:=Fj (show Qu f' (i + r.2) (l.drop (i + r.2)) = chk l by
          rw [← HK.out,HS.out,← HR.out,hb]
          simp [hz])
        clear hz hb
        go_wp2
        go_roundg (gk - r.2)
        case measure=>have:=HI.out; omega
        case rel=>exact ⟨i + r.2,f',by have:=HI.out; omega,by go_num,by have:=HF.out; omega,HE.out,rfl⟩
      have HE:=Fj (show chk l = (i : Int) by rw [← HK.out,HS.out,hb]; simp);clear hb
      go_wp2
      go_ret
      exact ⟨by rw [HE.out]; rfl,rfl⟩
    have hi2 : ¬ (i : Int) < (l.length : Int):=by omega
    have HE:=Fj (show chk l = -1 by
      rw [← HK.out,List.drop_eq_nil_of_le (by omega),x3t])
    clear hf hlt hi
    go_wp2
    go_ret
    exact ⟨by rw [HE.out]; rfl,rfl⟩
end Go.Proofs.YtkdeedhjkjffpaaGreat
namespace Go.Hub
open Go.RowKit Go.Lib
theorem x9g (E : List TypeId) (B : Nat) (w : World) (s : ByteArray) (e : TypeId) (c : e ∈ E) (cap : Nat) (a : Nat × Nat) :
    Bs E B (w.drew.alloc (.cells (bytesRow s cap) e a)) (some ⟨w.heap.size,0,none⟩) s.data.toList.length s.data.toList:=by
  refine ⟨rfl,fun _=>⟨w.heap.size,0,rfl,by simp,.inr ⟨_,e,a,heap_alloc_new w.drew _,c⟩,fun j x b=>?_⟩⟩;rw [Nat.zero_add]
  have d : j < s.data.size:=by
    have:=(List.getElem?_eq_some_iff.1 b).1
    simpa using this
  refine (World.cell?_alloc_mark w.drew _ _ _ _).trans ?_;rw [bytesRow_at s cap j d]
  have : x = s.data[j]:=by
    have:=(List.getElem?_eq_some_iff.1 b).2;simp at this;exact this.symm
  rw [this]
  rfl
end Go.Hub
namespace Go.Proofs.YtkdeedhjkjffpaaGreat
open Go.RowKit Go.Hub Go.Lib Go.Vl
theorem W6 (p : Pk) : Hd p p = true:=by simp [Hd]
theorem N5 (s : ByteArray) : s.toList.length = s.size:=by rw [ByteArray.toList_eq]; rfl
theorem y8s {s : ByteArray} (a : s.size ≤ 65535) : K3 s = decide (chk s.toList < 0):=by simp [K3,a]
theorem y8t {s : ByteArray} (h : ¬ s.size ≤ 65535) : K3 s = false:=by simp [K3,h]
section
variable {P : Program} {ops : Array Oper} {rest : List Oper} {a : Act} {w : World} {Q : Exit → Act → World → Prop} {n d : Nat} {l : FL} {ty : TypeId} {ps : String} {af : Array Edge} {gd : Option (Nat × Bool)} {x : Operand} {src dst u8t : TypeId}
theorem L.convSB (f : Fr n a l) (hw : Region.wanted ⟨some d, .convert src dst x, ty, ps, af, gd⟩ (yielded ops a.tmps) = true) (k : d < n) (m : P.underlying src = some .string) (i : P.underlying dst = some (.slice 5)) (j : P.underlying 5 = some (.int .u8)) {s : ByteArray} (o : Ae l x = some (.string s))
    (p : s.size ≤ 1000000) (g : ∀ a' w' c,Fr n a' ((d,.slice (some ⟨w.heap.size,0,none⟩) s.toList.length c) :: l) → (s.toList.length ≤ c ∧ c ≤ maxLen) → Bs [5] w'.heap.size w' (some ⟨w.heap.size,0,none⟩) s.toList.length s.toList → Kept [] w w' → wpList P ops Q rest a' w') : wpList P ops Q (⟨some d,.convert src dst x,ty,ps,af,gd⟩ :: rest) a w:=by
  have h:=run_bytes_of_string (P:=P) w src dst 5 s m i j;refine L.val (v:=.slice (some ⟨w.heap.size,0,none⟩) s.size (grownCap w s.size 0 5)) (w':=w.drew.alloc (.cells (bytesRow s (grownCap w s.size 0 5)) 5 ((bytesRow s (grownCap w s.size 0 5)).size,(bytesRow s (grownCap w s.size 0 5)).size + 1))) f hw rfl k (by simp only [execOp,f.ev o,Sem.run_bind,h,Result.andThen,Sem.run_pure]) fun a' b=>g a' _ (grownCap w s.size 0 5) (by rw [N5]; exact b) ?_ ?_ ?_
  · rw [N5]
    exact ⟨grownCap_ge _ _ _ _,grownCap_le_maxLen _ _ _ _ (by unfold maxLen; omega)⟩
  · rw [ByteArray.toList_eq]
    exact x9g [5] _ w s 5 (by simp) _ _
  exact ((Kept.refl [] w).drewN 1).alloc _
end
theorem Jt (b : Bool) (n : Int) (h : 0 ≤ n) : 0 ≤ M2 b n ∧ M2 b n ≤ n:=by cases b <;> simp [M2] <;> omega
def x4k (p : Pk) (w : World) (e : Ending) (w' : World) : Prop:=Kept [] w w' ∧ ∃ t,e = .returned (.agg ((Ak p).cells t)) ∧ (Ak p).In w' t
theorem x1a (p : Pk) (s t : Ad) (w : World) (IP : p.In w s) (IQ : p.In w t) (hl : p.subs.length ≤ 1000000) (bj : p.codes.length ≤ 1000000) : Calls Tryz.prog 93 #[.agg (p.cells s),.agg (p.cells t)] w (fun e w'=>Kept [] w w' ∧ e = .returned (.bool true)):=by
 have j : Kept [] w w:=Kept.refl [] w;refine Bw Tryz.func93 Tryz.ntmps93 fun _ f=>?_;refine C.sk fun _ n=>?_;refine L.box f Aa (by decide) rfl rfl fun _ w1 o N f=>?_;obtain ⟨g,q,ag,b5,b7⟩:=N.al;have b3:=j.lo ag;replace j:=j.z q;clear N q;refine L.box f Aa (by decide) rfl rfl fun _ w2 r N f=>?_;obtain ⟨h,q,ah,b6,b8⟩:=N.al;have b4:=j.lo ah;have ai : o ≠ r:=by have:=g.lt; omega
 replace j:=j.z q;replace g:=g.z q;clear N q;refine pe f n fun _ f=>?_;obtain ⟨J3,a8⟩ : ∃ J : Act → World → Prop,J = fun a W=>Kept [] w W ∧ Blk W o 39 (p.cells s) ∧ Blk W r 39 (p.cells t) ∧ Fr 195 a [(2,.pointer (some ⟨o,0,none⟩)),(3,.pointer (some ⟨r,0,none⟩))]:=⟨_,rfl⟩;refine C.cut J3 ?_ ?_
 ·skip;refine C.sk fun _ n=>?_;refine L.s f fun _ b=>?_;(iterate 7 refine L.s b fun _ b=>?_);have b:=b.as (i:=14) (v':=.bool false) rfl (by simp);(iterate 9 refine L.s b fun _ b=>?_);have b:=b.as (i:=23) (v':=.bool false) rfl (by simp);(iterate 2 refine L.s b fun _ b=>?_);refine L.va b (E.toStr b rfl U33 U5 U9 (IP.pay.kept j)) (hw:=b.y) fun _ b=>?_;(iterate 2 refine L.s b fun _ b=>?_);refine L.va b (E.toStr b rfl U33 U5 U9 (IQ.pay.kept j)) (hw:=b.y) fun _ b=>?_;(iterate 3 refine L.s b fun _ b=>?_);have b:=b.as (i:=32) (v':=.bool false) rfl (by simp);(iterate 2 refine L.s b fun _ b=>?_);refine L.va b (E.toStr b rfl U33 U5 U9 (IP.pass.kept j)) (hw:=b.y) fun _ b=>?_;(iterate 2 refine L.s b fun _ b=>?_);refine L.va b (E.toStr b rfl U33 U5 U9 (IQ.pass.kept j)) (hw:=b.y) fun _ b=>?_;(iterate 3 refine L.s b fun _ b=>?_);have b:=b.as (i:=41) (v':=.bool false) rfl (by simp);refine L.s b fun _ b=>?_;refine L.va b (E.loadR b U35 rfl Z5 rfl (Kf g) rfl) (hw:=b.y) fun _ b=>?_;refine L.s b fun _ b=>?_;refine L.va b (E.loadR b U35 rfl Z5 rfl (Kf h) rfl) (hw:=b.y) fun _ b=>?_;refine L.cl b (Bm b Tryz.call106) (W1 p p s t _ (IP.kept j) (IQ.kept j)) ?_ (hw:=b.y);rintro e w3 ⟨q,rfl⟩;refine ⟨_,rfl,fun _ b=>?_⟩
  have b9:=q.size;replace j:=j.z q;replace g:=g.z q;replace h:=h.z q;clear q;(iterate 2 refine L.s b fun _ b=>?_);have b:=b.as (i:=48) (v':=.bool false) rfl (by simp [W6]);refine wn n ?_;refine C.cF b rfl ?_;exact wp_skip (jK J3 (by rw [a8]; exact ⟨j,g,h,b.sub (sx (sx sn))⟩))
 intro _ w3 hj;rw [a8] at hj;clear a8 J3;obtain ⟨j,g,h,b⟩:=hj
 try clear f
 obtain ⟨J8,a9⟩ : ∃ J : Act → World → Prop,J = fun a W=>Kept [] w W ∧ Blk W o 39 (p.cells s) ∧ Blk W r 39 (p.cells t) ∧ Fr 195 a [(2,.pointer (some ⟨o,0,none⟩)),(3,.pointer (some ⟨r,0,none⟩))]:=⟨_,rfl⟩;refine C.cut J8 ?_ ?_
 ·skip;refine pr b fun _ f=>?_;refine wp_block ?_;refine C.loop (fun gk a W=>∃ k : Nat,k + gk = p.subs.length ∧ Kept [] w W ∧ Blk W o 39 (p.cells s) ∧ Blk W r 39 (p.cells t) ∧ Fr 195 a [(2,.pointer (some ⟨o,0,none⟩)),(3,.pointer (some ⟨r,0,none⟩)),(5,.int .i64 k)]) (p.subs.length) ?_ ?_
  ·exact ⟨0,by omega,j,g,h,f.sub (sx (sx (sx sn)))⟩
  intro av _ w4 hI bc ac;obtain ⟨k,hk,j,g,h,c⟩:=hI
  try clear f
  refine wp_seq_k fun _ n=>?_;refine pr c fun _ f=>?_;refine f.sD 53 rfl (fun h0 f=>?_) (fun h0 f=>?_)
  ·obtain ⟨d,hd⟩:=Bn p.subs k (by omega);obtain ⟨bk,b0,hA⟩:=IP.subs.addr (by omega);obtain ⟨d',x⟩:=Bn p.subs k (by omega);obtain ⟨aq,aj,a7⟩:=IQ.subs.addr (by omega);refine C.cT f rfl ?_;refine wp_skip (n _ _ ?_);have c:=f.pk [2,3,5];refine wp_seq_k fun _ n=>?_;refine wp_block ?_;refine wp_seq_k fun _ k2=>?_;refine R.bT (S:=fun W=>Kept [] w4 W) (by kernel_rfl) (by kernel_rfl) (by exact (Kept.refl _ _).drewN 1) fun ht=>?_;have l:=dk w4 1;have ay:=dk w4 1;obtain ⟨w5,a2⟩ : ∃ W,W = w4.drewN 1:=⟨_,rfl⟩;rw [← a2] at l ay ⊢;clear a2;have ba:=l.size;refine rs [0] c fun _ c=>?_;refine R.u 1 c rfl ht l (fun W m=>(E.ld c U36 (g.z m))) fun _ c=>?_;refine rs [2,3] c fun _ c=>?_;refine R.u 4 c rfl ht l (fun W m=>(E.loadR c U79 rfl Z4 rfl (Ke (IP.subs.kept (j.z m)) hA hd) rfl)) fun _ c=>?_;refine rs [5] c fun _ c=>?_;refine R.u 6 c rfl ht l (fun W m=>(E.ld c U36 (h.z m))) fun _ c=>?_;refine rs [7,8] c fun _ c=>?_;refine R.u 9 c rfl ht l (fun W m=>(E.loadR c U79 rfl Z4 rfl (Ke (IQ.subs.kept (j.z m)) a7 x) rfl)) fun _ c=>?_;refine R.u 10 c rfl ht l (fun W m=>(E.neqV c rfl rfl (x3x _ _ _ _ _ _))) fun _ c=>?_;have c:=c.as (i:=66) (v':=.bool false) rfl (by obtain rfl : d = d':=Option.some.inj (hd.symm.trans x); simp);have b1:=l.size;replace j:=j.z l
   replace g:=g.z l;replace h:=h.z l;clear l;refine R.dn k2 ?_;refine C.cF c rfl ?_;refine wp_skip (n _ _ ?_);refine C.region ?_;(iterate 3 refine L.s c fun _ c=>?_);refine wpList_nil (ac _ _ (av - 1) ?_ ?_)
   ·omega
   exact ⟨k + 1,by omega,j,g,h,c.sub (sx (sx (sx sn)))⟩
  refine C.cF f rfl ?_;exact wp_exit (jK J8 (by rw [a9]; exact ⟨j,g,h,f.sub (sx (sx sn))⟩))
 intro _ w4 hj;rw [a9] at hj;clear a9 J8;obtain ⟨j,g,h,f⟩:=hj
 try clear b
 obtain ⟨a6,v⟩ : ∃ J : Act → World → Prop,J = fun a W=>Kept [] w W ∧ Blk W o 39 (p.cells s) ∧ Blk W r 39 (p.cells t) ∧ Fr 195 a [(2,.pointer (some ⟨o,0,none⟩)),(3,.pointer (some ⟨r,0,none⟩))]:=⟨_,rfl⟩;refine C.cut a6 ?_ ?_
 ·skip;refine pr f fun _ b=>?_;refine wp_block ?_;refine C.loop (fun gk a W=>∃ k : Nat,k + gk = p.codes.length ∧ Kept [] w W ∧ Blk W o 39 (p.cells s) ∧ Blk W r 39 (p.cells t) ∧ Fr 195 a [(2,.pointer (some ⟨o,0,none⟩)),(3,.pointer (some ⟨r,0,none⟩)),(6,.int .i64 k)]) (p.codes.length) ?_ ?_
  ·exact ⟨0,by omega,j,g,h,b.sub (sx (sx (sx sn)))⟩
  intro ab _ w5 hI bd ad;obtain ⟨k,hk,j,g,h,c⟩:=hI
  try clear b
  refine wp_seq_k fun _ n=>?_;refine pr c fun _ b=>?_;refine b.sD 71 rfl (fun h1 b=>?_) (fun h1 b=>?_)
  ·obtain ⟨d,hd⟩:=Bn p.codes k (by omega);obtain ⟨bk,b0,hA⟩:=IP.codes.addr (by omega);obtain ⟨d',x⟩:=Bn p.codes k (by omega);obtain ⟨aq,aj,a7⟩:=IQ.codes.addr (by omega);refine C.cT b rfl ?_;refine wp_skip (n _ _ ?_);have c:=b.pk [2,3,6];refine wp_seq_k fun _ n=>?_;refine wp_block ?_;refine wp_seq_k fun _ k2=>?_;refine R.bT (S:=fun W=>Kept [] w5 W) (by kernel_rfl) (by kernel_rfl) (by exact (Kept.refl _ _).drewN 1) fun ht=>?_;have l:=dk w5 1;have af:=dk w5 1;obtain ⟨w6,a3⟩ : ∃ W,W = w5.drewN 1:=⟨_,rfl⟩;rw [← a3] at l af ⊢;clear a3;have bb:=l.size;refine rs [0] c fun _ c=>?_;refine R.u 1 c rfl ht l (fun W m=>(E.ld c U37 (g.z m))) fun _ c=>?_;refine rs [2,3] c fun _ c=>?_;refine R.u 4 c rfl ht l (fun W m=>(E.load c U3 rfl rfl (Dp (IP.codes.kept (j.z m)) hA hd))) fun _ c=>?_;refine rs [5] c fun _ c=>?_;refine R.u 6 c rfl ht l (fun W m=>(E.ld c U37 (h.z m))) fun _ c=>?_;refine rs [7,8] c fun _ c=>?_;refine R.u 9 c rfl ht l (fun W m=>(E.load c U3 rfl rfl (Dp (IQ.codes.kept (j.z m)) a7 x))) fun _ c=>?_;refine rs [10] c fun _ c=>?_;have c:=c.as (i:=84) (v':=.bool false) rfl (by obtain rfl : d = d':=Option.some.inj (hd.symm.trans x); simp);have b2:=l.size;replace j:=j.z l;replace g:=g.z l;replace h:=h.z l;clear l
   refine R.dn k2 ?_;refine C.cF c rfl ?_;refine wp_skip (n _ _ ?_);refine C.region ?_;(iterate 3 refine L.s c fun _ c=>?_);refine wpList_nil (ad _ _ (ab - 1) ?_ ?_)
   ·omega
   exact ⟨k + 1,by omega,j,g,h,c.sub (sx (sx (sx sn)))⟩
  refine C.cF b rfl ?_;exact wp_exit (jK a6 (by rw [v]; exact ⟨j,g,h,b.sub (sx (sx sn))⟩))
 intro _ w5 hj;rw [v] at hj;clear v a6;obtain ⟨j,g,h,b⟩:=hj
 try clear f
 refine C.sk fun _ n=>?_;refine L.s b fun _ f=>?_;(iterate 5 refine L.s f fun _ f=>?_);have f:=f.as (i:=90) (v':=.bool true) rfl (by simp);(iterate 7 refine L.s f fun _ f=>?_);have f:=f.as (i:=97) (v':=.bool true) rfl (by simp);(iterate 7 refine L.s f fun _ f=>?_);have f:=f.as (i:=104) (v':=.bool true) rfl (by simp);(iterate 7 refine L.s f fun _ f=>?_);have f:=f.as (i:=111) (v':=.bool true) rfl (by simp);(iterate 7 refine L.s f fun _ f=>?_);have f:=f.as (i:=118) (v':=.bool true) rfl (by simp);(iterate 7 refine L.s f fun _ f=>?_);have f:=f.as (i:=125) (v':=.bool true) rfl (by simp);(iterate 7 refine L.s f fun _ f=>?_);have f:=f.as (i:=132) (v':=.bool true) rfl (by simp);(iterate 7 refine L.s f fun _ f=>?_);have f:=f.as (i:=139) (v':=.bool true) rfl (by simp);(iterate 7 refine L.s f fun _ f=>?_);have f:=f.as (i:=146) (v':=.bool true) rfl (by simp);(iterate 7 refine L.s f fun _ f=>?_);have f:=f.as (i:=153) (v':=.bool true) rfl (by simp);(iterate 7 refine L.s f fun _ f=>?_);have f:=f.as (i:=160) (v':=.bool true) rfl (by simp);(iterate 7 refine L.s f fun _ f=>?_);have f:=f.as (i:=167) (v':=.bool true) rfl (by simp);(iterate 7 refine L.s f fun _ f=>?_);have f:=f.as (i:=174) (v':=.bool true) rfl (by simp);(iterate 7 refine L.s f fun _ f=>?_);have f:=f.as (i:=181) (v':=.bool true) rfl (by simp);(iterate 7 refine L.s f fun _ f=>?_)
 have f:=f.as (i:=188) (v':=.bool true) rfl (by simp);refine re f n ?_;exact ⟨j,by simp⟩
theorem Fg (b : ByteArray) (w : World)  : Calls Tryz.prog 96 #[.string b] w (fun e w'=>Kept [] w w' ∧ e = .returned (.bool (K3 b))):=by
 have g : Kept [] w w:=Kept.refl [] w;refine Bw Tryz.func96 Tryz.ntmps96 fun _ f=>?_;refine pr f fun _ f=>?_;refine C.sk fun _ k=>?_;refine L.s f fun _ f=>?_;refine L.va f (E.lenS f U9 rfl) fun _ f=>?_;(iterate 2 refine L.s f fun _ f=>?_);refine f.sD 6 rfl (fun m f=>?_) (fun m f=>?_)
 ·refine L.s f fun _ a=>?_;refine L.convSB a a.y (by decide) U9 U33 U5 rfl (by omega) fun _ i l a d j c=>?_;have h:=c.size;replace g:=g.z c;clear c;refine L.cl a (Dt a Tryz.call87) (Uv [5] i.heap.size _ l b.toList i j d.1 d.2) ?_ (hw:=a.y);rintro e n ⟨rfl,rfl⟩;refine ⟨_,rfl,fun _ a=>?_⟩;refine re a k ?_;exact ⟨g,by rw [y8s (by omega)]⟩
 refine L.sk f f.nT fun _ f=>?_;refine L.sk f f.nT fun _ f=>?_;refine L.rn f fun _ f=>?_;have f:=f.sub (sv 2 (.bool false) sn);refine wn k ?_;refine Gc f ?_;exact ⟨g,by rw [y8t (by omega)]⟩
end Go.Proofs.YtkdeedhjkjffpaaGreat
namespace Go.Proofs.YtkdeedhjkjffpaaGreat
open Go.RowKit Go.Hub Go.Lib Go.Vl
theorem Zf (a : Int) : Tryz.prog.built 39 [(0,.int .i64 a)] = some #[.int .i64 a,(.bool false),(.bool false),(.int .i64 0),(.int .i64 0),(.string ⟨#[]⟩),(.slice none 0 0),(.int .i64 0),(.string ⟨#[]⟩),(.bool false),(.int .i64 0),(.bool false),(.string ⟨#[]⟩),(.slice none 0 0),(.int .i64 0),(.bool false),(.bool false),(.bool false),(.string ⟨#[]⟩),(.slice none 0 0),(.bool false),(.int .i64 0),(.slice none 0 0),(.slice none 0 0)]:=by kernel_rfl
theorem x4l (p : Pk) (s : Ad) (w : World) (IP : p.In w s) (cg : p.kind ≠ 1) (ch : p.kind ≠ 8 ∧ p.kind ≠ 10) : Calls Tryz.prog 94 #[.agg (p.cells s)] w (fun e w'=>x4k p w e w'):=by
 have m : Kept [] w w:=Kept.refl [] w;refine Bw Tryz.func94 Tryz.ntmps94 fun _ f=>?_;refine C.sk fun _ k=>?_;refine L.box f Aa (by decide) rfl rfl fun _ w1 g0 N f=>?_;obtain ⟨h,q,b2,bu,bx⟩:=N.al;have bp:=m.lo b2;replace m:=m.z q;clear N q;refine L.alloc f Aa (by decide) (z:=(.agg #[(.int .i64 0),(.bool false),(.bool false),(.int .i64 0),(.int .i64 0),(.string ⟨#[]⟩),(.slice none 0 0),(.int .i64 0),(.string ⟨#[]⟩),(.bool false),(.int .i64 0),(.bool false),(.string ⟨#[]⟩),(.slice none 0 0),(.int .i64 0),(.bool false),(.bool false),(.bool false),(.string ⟨#[]⟩),(.slice none 0 0),(.bool false),(.int .i64 0),(.slice none 0 0),(.slice none 0 0)])) (fun _=>by kernel_rfl) rfl fun _ w2 g1 N f=>?_;obtain ⟨g,q,b3,bv,bz⟩:=N.al;have bq:=m.lo b3;have b5 : g0 ≠ g1:=by have:=h.lt; omega
 replace m:=m.z q;replace h:=h.z q;clear N q;refine wn k (C.sk fun _ k=>?_);(iterate 2 refine L.s f fun _ f=>?_);refine L.bd f (Zf _) fun _ f=>?_;refine L.alloc f Aa (by decide) (z:=(.agg #[(.int .i64 0),(.bool false),(.bool false),(.int .i64 0),(.int .i64 0),(.string ⟨#[]⟩),(.slice none 0 0),(.int .i64 0),(.string ⟨#[]⟩),(.bool false),(.int .i64 0),(.bool false),(.string ⟨#[]⟩),(.slice none 0 0),(.int .i64 0),(.bool false),(.bool false),(.bool false),(.string ⟨#[]⟩),(.slice none 0 0),(.bool false),(.int .i64 0),(.slice none 0 0),(.slice none 0 0)])) (fun _=>by kernel_rfl) rfl fun _ w3 g2 N f=>?_;obtain ⟨c,q,b4,bw,c0⟩:=N.al;have br:=m.lo b4;have b6 : g0 ≠ g2:=by have:=h.lt; omega
 have b7 : g1 ≠ g2:=by have:=g.lt; omega
 replace m:=m.z q;replace h:=h.z q;replace g:=g.z q;clear N q;refine L.storeR f Aa Z8 rfl rfl rfl c rfl rfl fun _ w4 f bc ah=>?_;have c1:=ah.size;replace m:=m.trans ah (B6 (by omega));replace h:=h.kn ah;replace g:=g.kn ah;replace c:=bc;clear ah;refine wn k ?_;obtain ⟨a1,r⟩ : ∃ J : Act → World → Prop,J = fun a W=>∃ t,Kept [] w W ∧ Blk W g1 39 Dg ∧ Blk W g2 39 ((Ak p).cells t) ∧ (∀ n,Kept [] w n → (Ak p).In n t) ∧ Fr 105 a [(2,.pointer (some ⟨g1,0,none⟩)),(3,.pointer (some ⟨g2,0,none⟩))]:=⟨_,rfl⟩;refine C.cut a1 ?_ ?_
 ·skip;refine pr f fun _ d=>?_;refine wp_block ?_;refine pr d fun _ d=>?_;refine d.sD 9 rfl (fun h0 b=>?_) (fun h0 b=>?_)
  ·clear d
   exfalso
   omega
  refine C.cF b rfl ?_;refine pr b fun _ d=>?_;refine C.sp d (fun h1 d=>?_) (fun h1 d=>?_)
  ·refine R.bT (S:=fun W=>Kept [g2] w4 W) (by kernel_rfl) (by kernel_rfl) (by exact (Kept.refl _ _).drewN 1) fun ht=>?_;have i : Kept [g2] w4 (w4.drewN 1):=(Kept.refl _ _).drewN 1;have aj:=dk w4 1;obtain ⟨w5,a0⟩ : ∃ W,W = w4.drewN 1:=⟨_,rfl⟩;rw [← a0] at i aj ⊢;clear a0;have a3:=i.size;replace c:=c.z aj;refine rs [0] d fun _ b=>?_;refine R.u 1 b rfl ht i (fun W o=>(E.ld b U4 (h.kept o (by simp; omega)))) fun _ b=>?_;refine rs [2] b fun _ b=>?_;refine R.u 3 b rfl ht i (fun W o=>(E.ld b U3 (h.kept o (by simp; omega)))) fun _ b=>?_;refine rs [4] b fun _ b=>?_;refine R.store 5 b rfl (by kernel_rfl) Aa Z1 rfl rfl rfl c (by (simp [Value.cells]; done)) (fun _ o=>i.trans o (by (simp; done))) fun _ w6 b ac y j=>?_;have ai:=y.size;replace c:=ac;simp only [Value.cells,z1,z2,z3,Nat.reduceAdd,Nat.zero_add] at c;replace i:=j;clear j y;refine rs [6] b fun _ b=>?_;refine R.store 7 b rfl (by kernel_rfl) Aa Z0 rfl rfl rfl c (by (simp [Value.cells]; done)) (fun _ o=>i.trans o (by (simp; done))) fun _ w7 b af aa j=>?_;have au:=aa.size;replace c:=af;simp only [Value.cells,z1,z2,z3,Nat.reduceAdd,Nat.zero_add] at c;replace i:=j;clear j aa;have av:=i.size;replace m:=m.trans i (B6 (by omega));replace h:=h.kept i (by simp; omega);replace g:=g.kept i (by simp; omega);clear i
   have x : Ak p = { kind:=p.kind,present:=p.present,code:=p.code }:=by unfold Ak; (simp [*]; done)
   have hJ : ∃ t,Blk w7 g2 39 ((Ak p).cells t) ∧ ∀ n,Kept [] w n → (Ak p).In n t:=⟨⟨none,0,none,0,none,0,none,0,none,0⟩,by rw [x]; exact c,fun n a2=>by rw [x]; exact ⟨Sl.nil _ _ _,Sl.nil _ _ _,Sl.nil _ _ _,Sl.nil _ _ _,Sl.nil _ _ _⟩⟩;obtain ⟨tt,BT,IT⟩:=hJ;exact R.done (by kernel_rfl) (jK a1 (by rw [r]; exact ⟨tt,m,g,BT,IT,b.sub (sx (sx sn))⟩))
  refine pr d fun _ d=>?_;refine C.sp d (fun h2 d=>?_) (fun h2 d=>?_)
  ·refine wp_seq_k fun _ k=>?_;refine R.bT (S:=fun W=>Kept [g2] w4 W) (by kernel_rfl) (by kernel_rfl) (by exact (Kept.refl _ _).drewN 1) fun ht=>?_;have i : Kept [g2] w4 (w4.drewN 1):=(Kept.refl _ _).drewN 1;have ak:=dk w4 1;obtain ⟨w5,a0⟩ : ∃ W,W = w4.drewN 1:=⟨_,rfl⟩;rw [← a0] at i ak ⊢;clear a0;have a3:=i.size;replace c:=c.z ak;refine rs [0] d fun _ b=>?_;refine R.u 1 b rfl ht i (fun W o=>(E.ld b U4 (h.kept o (by simp; omega)))) fun _ b=>?_;refine rs [2] b fun _ b=>?_;refine R.u 3 b rfl ht i (fun W o=>(E.ld b U3 (h.kept o (by simp; omega)))) fun _ b=>?_;refine rs [4] b fun _ b=>?_;refine R.u 5 b rfl ht i (fun W o=>(E.ld b U9 (h.kept o (by simp; omega)))) fun _ b=>?_;refine rs [6] b fun _ b=>?_;refine R.u 7 b rfl ht i (fun W o=>(E.ld b U33 (h.kept o (by simp; omega)))) fun _ b=>?_;refine rs [8] b fun _ b=>?_;refine R.store 9 b rfl (by kernel_rfl) Aa Z1 rfl rfl rfl c (by (simp [Value.cells]; done)) (fun _ o=>i.trans o (by (simp; done))) fun _ w6 b ac y j=>?_;have ai:=y.size;replace c:=ac;simp only [Value.cells,z1,z2,z3,Nat.reduceAdd,Nat.zero_add] at c;replace i:=j;clear j y;refine rs [10] b fun _ b=>?_;refine R.store 11 b rfl (by kernel_rfl) Aa Z0 rfl rfl rfl c (by (simp [Value.cells]; done)) (fun _ o=>i.trans o (by (simp; done))) fun _ w7 b af aa j=>?_
   have au:=aa.size;replace c:=af;simp only [Value.cells,z1,z2,z3,Nat.reduceAdd,Nat.zero_add] at c;replace i:=j;clear j aa;refine rs [12] b fun _ b=>?_;refine R.store 13 b rfl (by kernel_rfl) Aa Z2 rfl rfl rfl c (by (simp [Value.cells]; done)) (fun _ o=>i.trans o (by (simp; done))) fun _ w8 b bf b0 j=>?_;have c2:=b0.size;replace c:=bf;simp only [Value.cells,z1,z2,z3,Nat.reduceAdd,Nat.zero_add] at c;replace i:=j;clear j b0;refine rs [14] b fun _ b=>?_;refine R.store 15 b rfl (by kernel_rfl) Aa Z3 rfl rfl rfl c (by (simp [Value.cells]; done)) (fun _ o=>i.trans o (by (simp; done))) fun _ w9 b bg b1 j=>?_;have c3:=b1.size;replace c:=bg;simp only [Value.cells,z1,z2,z3,Nat.reduceAdd,Nat.zero_add] at c;replace i:=j;clear j b1;have bm:=i.size;replace m:=m.trans i (B6 (by omega));replace h:=h.kept i (by simp; omega);replace g:=g.kept i (by simp; omega);clear i;refine R.dn k ?_;refine pr b fun _ b=>?_;refine C.sp b (fun h3 b=>?_) (fun h3 b=>?_)
   ·refine R.bT (S:=fun W=>Kept [g2] w9 W) (by kernel_rfl) (by kernel_rfl) (by exact (Kept.refl _ _).drewN 1) fun ht=>?_;have i : Kept [g2] w9 (w9.drewN 1):=(Kept.refl _ _).drewN 1;have ao:=dk w9 1;obtain ⟨ci,ag⟩ : ∃ W,W = w9.drewN 1:=⟨_,rfl⟩;rw [← ag] at i ao ⊢;clear ag;have bj:=i.size;replace c:=c.z ao;refine rs [0] b fun _ v=>?_;refine R.u 1 v rfl ht i (fun W o=>(E.ld v U4 (h.kept o (by simp; omega)))) fun _ v=>?_;refine rs [2] v fun _ v=>?_;refine R.u 3 v rfl ht i (fun W o=>(E.ld v U3 (h.kept o (by simp; omega)))) fun _ v=>?_;refine rs [4] v fun _ v=>?_;refine R.store 5 v rfl (by kernel_rfl) Aa Z1 rfl rfl rfl c (by (simp [Value.cells]; done)) (fun _ o=>i.trans o (by (simp; done))) fun _ cj v ay aq j=>?_;have bk:=aq.size;replace c:=ay;simp only [Value.cells,z1,z2,z3,Nat.reduceAdd,Nat.zero_add] at c;replace i:=j;clear j aq;refine rs [6] v fun _ v=>?_;refine R.store 7 v rfl (by kernel_rfl) Aa Z0 rfl rfl rfl c (by (simp [Value.cells]; done)) (fun _ o=>i.trans o (by (simp; done))) fun _ bn v az ar j=>?_;have bl:=ar.size;replace c:=az;simp only [Value.cells,z1,z2,z3,Nat.reduceAdd,Nat.zero_add] at c;replace i:=j;clear j ar;have b9:=i.size;replace m:=m.trans i (B6 (by omega));replace h:=h.kept i (by simp; omega)
    replace g:=g.kept i (by simp; omega);clear i;have x : Ak p = { kind:=p.kind,retain:=p.retain,qos:=p.qos,topic:=p.topic,pay:=p.pay,dup:=p.dup,id:=p.id }:=by unfold Ak; (simp [*]; done)
    have hJ : ∃ t,Blk bn g2 39 ((Ak p).cells t) ∧ ∀ n,Kept [] w n → (Ak p).In n t:=⟨⟨s.pa,s.pc,none,0,none,0,none,0,none,0⟩,by rw [x]; exact c,fun n a2=>by rw [x]; exact ⟨IP.pay.kept a2,Sl.nil _ _ _,Sl.nil _ _ _,Sl.nil _ _ _,Sl.nil _ _ _⟩⟩;obtain ⟨tt,BT,IT⟩:=hJ;exact R.done (by kernel_rfl) (jK a1 (by rw [r]; exact ⟨tt,m,g,BT,IT,v.sub (sx (sx sn))⟩))
   have x : Ak p = { kind:=p.kind,retain:=p.retain,qos:=p.qos,topic:=p.topic,pay:=p.pay }:=by unfold Ak; (simp [*]; done)
   have hJ : ∃ t,Blk w9 g2 39 ((Ak p).cells t) ∧ ∀ n,Kept [] w n → (Ak p).In n t:=⟨⟨s.pa,s.pc,none,0,none,0,none,0,none,0⟩,by rw [x]; exact c,fun n a2=>by rw [x]; exact ⟨IP.pay.kept a2,Sl.nil _ _ _,Sl.nil _ _ _,Sl.nil _ _ _,Sl.nil _ _ _⟩⟩;obtain ⟨tt,BT,IT⟩:=hJ;exact wp_skip (jK a1 (by rw [r]; exact ⟨tt,m,g,BT,IT,b.sub (sx (sx sn))⟩))
  refine wp_seq_k fun _ k=>?_;refine pr d fun _ d=>?_;refine d.sD 78 rfl (fun h4 b=>?_) (fun h4 b=>?_)
  ·clear d
   exfalso
   omega
  refine C.cF b rfl ?_;refine Ib b k fun _ d=>?_;refine d.sD 78 rfl (fun h5 b=>?_) (fun h5 b=>?_)
  ·clear d
   exfalso
   omega
  refine C.cF b rfl ?_;refine pr b fun _ d=>?_;refine C.sp d (fun h6 d=>?_) (fun h6 d=>?_)
  ·refine R.bT (S:=fun W=>Kept [g2] w4 W) (by kernel_rfl) (by kernel_rfl) (by exact (Kept.refl _ _).drewN 1) fun ht=>?_;have i : Kept [g2] w4 (w4.drewN 1):=(Kept.refl _ _).drewN 1;have ap:=dk w4 1;obtain ⟨w5,a0⟩ : ∃ W,W = w4.drewN 1:=⟨_,rfl⟩;rw [← a0] at i ap ⊢;clear a0;have a3:=i.size;replace c:=c.z ap;refine rs [0] d fun _ b=>?_;refine R.u 1 b rfl ht i (fun W o=>(E.ld b U3 (h.kept o (by simp; omega)))) fun _ b=>?_;refine rs [2] b fun _ b=>?_;refine R.u 3 b rfl ht i (fun W o=>(E.ld b U37 (h.kept o (by simp; omega)))) fun _ b=>?_;refine rs [4] b fun _ b=>?_;refine R.store 5 b rfl (by kernel_rfl) Aa Z0 rfl rfl rfl c (by (simp [Value.cells]; done)) (fun _ o=>i.trans o (by (simp; done))) fun _ w6 b ac y j=>?_;have ai:=y.size;replace c:=ac;simp only [Value.cells,z1,z2,z3,Nat.reduceAdd,Nat.zero_add] at c;replace i:=j;clear j y;refine rs [6] b fun _ b=>?_;refine R.store 7 b rfl (by kernel_rfl) Aa Z7 rfl rfl rfl c (by (simp [Value.cells]; done)) (fun _ o=>i.trans o (by (simp; done))) fun _ w7 b af aa j=>?_;have au:=aa.size;replace c:=af;simp only [Value.cells,z1,z2,z3,Nat.reduceAdd,Nat.zero_add] at c;replace i:=j;clear j aa;have av:=i.size;replace m:=m.trans i (B6 (by omega));replace h:=h.kept i (by simp; omega);replace g:=g.kept i (by simp; omega);clear i
   have hn : Bv p = true:=by exact Dz (by omega)
   have x : Ak p = { kind:=p.kind,id:=p.id,codes:=p.codes }:=by unfold Ak; (simp [*]; done)
   have hJ : ∃ t,Blk w7 g2 39 ((Ak p).cells t) ∧ ∀ n,Kept [] w n → (Ak p).In n t:=⟨⟨none,0,none,0,none,0,none,0,s.ca,s.cc⟩,by rw [x]; exact c,fun n a2=>by rw [x]; exact ⟨Sl.nil _ _ _,Sl.nil _ _ _,Sl.nil _ _ _,Sl.nil _ _ _,IP.codes.kept a2⟩⟩;obtain ⟨tt,BT,IT⟩:=hJ;exact R.done (by kernel_rfl) (jK a1 (by rw [r]; exact ⟨tt,m,g,BT,IT,b.sub (sx (sx sn))⟩))
  refine wp_seq_k fun _ k=>?_;refine pr d fun _ d=>?_;refine C.sp d (fun h7 d=>?_) (fun h7 d=>?_)
  ·refine wp_skip (k _ _ ?_);have b:=d.pk [1,2,3,95];refine C.cT b rfl ?_;refine C.region ?_;(iterate 3 refine L.s b fun _ b=>?_);refine L.store b Aa Z0 rfl rfl rfl c (by (simp [Value.cells]; done)) fun _ w5 b a8 l=>?_;have a3:=l.size;replace m:=m.trans l (B6 (by omega));replace h:=h.kn l;replace g:=g.kn l;replace c:=a8;simp only [Value.cells,z1,z2,z3,Nat.reduceAdd,Nat.zero_add] at c;clear l;have hn : Bv p = true:=by exact Dz (by omega)
   have x : Ak p = { kind:=p.kind,id:=p.id }:=by unfold Ak; (simp [*]; done)
   have hJ : ∃ t,Blk w5 g2 39 ((Ak p).cells t) ∧ ∀ n,Kept [] w n → (Ak p).In n t:=⟨⟨none,0,none,0,none,0,none,0,none,0⟩,by rw [x]; exact c,fun n a2=>by rw [x]; exact ⟨Sl.nil _ _ _,Sl.nil _ _ _,Sl.nil _ _ _,Sl.nil _ _ _,Sl.nil _ _ _⟩⟩;obtain ⟨tt,BT,IT⟩:=hJ;exact wpList_nil (jK a1 (by rw [r]; exact ⟨tt,m,g,BT,IT,b.sub (sx (sx sn))⟩))
  refine pr d fun _ d=>?_;refine C.sp d (fun h8 d=>?_) (fun h8 d=>?_)
  ·refine wp_skip (k _ _ ?_);have b:=d.pk [1,2,3,95];refine C.cT b rfl ?_;refine C.region ?_;(iterate 3 refine L.s b fun _ b=>?_);refine L.store b Aa Z0 rfl rfl rfl c (by (simp [Value.cells]; done)) fun _ w5 b a8 l=>?_;have a3:=l.size;replace m:=m.trans l (B6 (by omega));replace h:=h.kn l;replace g:=g.kn l;replace c:=a8;simp only [Value.cells,z1,z2,z3,Nat.reduceAdd,Nat.zero_add] at c;clear l;have hn : Bv p = true:=by exact Dz (by omega)
   have x : Ak p = { kind:=p.kind,id:=p.id }:=by unfold Ak; (simp [*]; done)
   have hJ : ∃ t,Blk w5 g2 39 ((Ak p).cells t) ∧ ∀ n,Kept [] w n → (Ak p).In n t:=⟨⟨none,0,none,0,none,0,none,0,none,0⟩,by rw [x]; exact c,fun n a2=>by rw [x]; exact ⟨Sl.nil _ _ _,Sl.nil _ _ _,Sl.nil _ _ _,Sl.nil _ _ _,Sl.nil _ _ _⟩⟩;obtain ⟨tt,BT,IT⟩:=hJ;exact wpList_nil (jK a1 (by rw [r]; exact ⟨tt,m,g,BT,IT,b.sub (sx (sx sn))⟩))
  refine pr d fun _ d=>?_;refine C.sp d (fun h9 d=>?_) (fun h9 d=>?_)
  ·refine wp_skip (k _ _ ?_);have b:=d.pk [1,2,3,95];refine C.cT b rfl ?_;refine C.region ?_;(iterate 3 refine L.s b fun _ b=>?_);refine L.store b Aa Z0 rfl rfl rfl c (by (simp [Value.cells]; done)) fun _ w5 b a8 l=>?_;have a3:=l.size;replace m:=m.trans l (B6 (by omega));replace h:=h.kn l;replace g:=g.kn l;replace c:=a8;simp only [Value.cells,z1,z2,z3,Nat.reduceAdd,Nat.zero_add] at c;clear l;have hn : Bv p = true:=by exact Dz (by omega)
   have x : Ak p = { kind:=p.kind,id:=p.id }:=by unfold Ak; (simp [*]; done)
   have hJ : ∃ t,Blk w5 g2 39 ((Ak p).cells t) ∧ ∀ n,Kept [] w n → (Ak p).In n t:=⟨⟨none,0,none,0,none,0,none,0,none,0⟩,by rw [x]; exact c,fun n a2=>by rw [x]; exact ⟨Sl.nil _ _ _,Sl.nil _ _ _,Sl.nil _ _ _,Sl.nil _ _ _,Sl.nil _ _ _⟩⟩;obtain ⟨tt,BT,IT⟩:=hJ;exact wpList_nil (jK a1 (by rw [r]; exact ⟨tt,m,g,BT,IT,b.sub (sx (sx sn))⟩))
  refine pr d fun _ d=>?_;refine C.sp d (fun bh d=>?_) (fun bh d=>?_)
  ·refine wp_skip (k _ _ ?_);have b:=d.pk [1,2,3,95];refine C.cT b rfl ?_;refine C.region ?_;(iterate 3 refine L.s b fun _ b=>?_);refine L.store b Aa Z0 rfl rfl rfl c (by (simp [Value.cells]; done)) fun _ w5 b a8 l=>?_;have a3:=l.size;replace m:=m.trans l (B6 (by omega));replace h:=h.kn l;replace g:=g.kn l;replace c:=a8;simp only [Value.cells,z1,z2,z3,Nat.reduceAdd,Nat.zero_add] at c;clear l;have hn : Bv p = true:=by exact Dz (by omega)
   have x : Ak p = { kind:=p.kind,id:=p.id }:=by unfold Ak; (simp [*]; done)
   have hJ : ∃ t,Blk w5 g2 39 ((Ak p).cells t) ∧ ∀ n,Kept [] w n → (Ak p).In n t:=⟨⟨none,0,none,0,none,0,none,0,none,0⟩,by rw [x]; exact c,fun n a2=>by rw [x]; exact ⟨Sl.nil _ _ _,Sl.nil _ _ _,Sl.nil _ _ _,Sl.nil _ _ _,Sl.nil _ _ _⟩⟩;obtain ⟨tt,BT,IT⟩:=hJ;exact wpList_nil (jK a1 (by rw [r]; exact ⟨tt,m,g,BT,IT,b.sub (sx (sx sn))⟩))
  refine Ib d k fun _ d=>?_;refine C.sp d (fun bi d=>?_) (fun bi d=>?_)
  ·refine C.region ?_;refine L.s d fun _ b=>?_;(iterate 2 refine L.s b fun _ b=>?_);refine L.store b Aa Z0 rfl rfl rfl c (by (simp [Value.cells]; done)) fun _ w5 b a8 l=>?_;have a3:=l.size;replace m:=m.trans l (B6 (by omega));replace h:=h.kn l;replace g:=g.kn l;replace c:=a8;simp only [Value.cells,z1,z2,z3,Nat.reduceAdd,Nat.zero_add] at c;clear l;have hn : Bv p = true:=by exact Dz (by omega)
   have x : Ak p = { kind:=p.kind,id:=p.id }:=by unfold Ak; (simp [*]; done)
   have hJ : ∃ t,Blk w5 g2 39 ((Ak p).cells t) ∧ ∀ n,Kept [] w n → (Ak p).In n t:=⟨⟨none,0,none,0,none,0,none,0,none,0⟩,by rw [x]; exact c,fun n a2=>by rw [x]; exact ⟨Sl.nil _ _ _,Sl.nil _ _ _,Sl.nil _ _ _,Sl.nil _ _ _,Sl.nil _ _ _⟩⟩;obtain ⟨tt,BT,IT⟩:=hJ;exact wpList_nil (jK a1 (by rw [r]; exact ⟨tt,m,g,BT,IT,b.sub (sx (sx sn))⟩))
  have hn : Bv p = false:=by exact x4a (by omega) (by omega)
  have x : Ak p = { kind:=p.kind }:=by unfold Ak; (simp [*]; done)
  have hJ : ∃ t,Blk w4 g2 39 ((Ak p).cells t) ∧ ∀ n,Kept [] w n → (Ak p).In n t:=⟨⟨none,0,none,0,none,0,none,0,none,0⟩,by rw [x]; exact c,fun n a2=>by rw [x]; exact ⟨Sl.nil _ _ _,Sl.nil _ _ _,Sl.nil _ _ _,Sl.nil _ _ _,Sl.nil _ _ _⟩⟩;obtain ⟨tt,BT,IT⟩:=hJ;exact wp_skip (jK a1 (by rw [r]; exact ⟨tt,m,g,BT,IT,d.sub (sx (sx sn))⟩))
 intro _ w5 hj;rw [r] at hj;clear r a1;obtain ⟨tt,m,g,c,IT,d⟩:=hj
 try clear f
 refine C.sk fun _ k=>?_;refine L.s d fun _ f=>?_;refine L.storeR f Aa Z8 rfl rfl rfl g rfl rfl fun _ w6 f ac y=>?_;have ai:=y.size;replace m:=m.trans y (B6 (by omega));replace c:=c.kn y;replace g:=ac;clear y;refine wn k (wp_ret ?_); (try simp only [xt,xb]); refine C.retC f rfl rfl g U39 rfl Z8 ?_;exact ⟨m,tt,rfl,IT _ m⟩
end Go.Proofs.YtkdeedhjkjffpaaGreat
namespace Go.Proofs.YtkdeedhjkjffpaaGreat
open Go.RowKit Go.Hub Go.Lib Go.Vl
theorem Zg (a : Int) : Instr.fill (fun i=>some (i * 1,1)) ((Array.range (1 * 1)).map fun j=>(Value.cells (.int .u8 0))[j % (Value.cells (.int .u8 0)).size]!) [(0,.int .u8 a)] = some #[.int .u8 a]:=by kernel_rfl
def FB (w W : World) (A : Option Addr) (c : Nat) (l : List UInt8) : Prop:=Fresh w W 5 1 A l.length c (l.map u8)
theorem FB.nil (w W : World) : FB w W none 0 []:=Fresh.nil _ _ _ _
section
variable {w W W' : World} {A A' : Option Addr} {c c' : Nat} {l b : List UInt8}
theorem FB.own (h : FB w W A c l) : Own W 5 1 (.slice A l.length c) l.length (l.map u8):=Fresh.own h
theorem FB.k0 (h : FB w W A c l) (a : Kept [] W W') : FB w W' A c l:=Fresh.k0 h a
theorem FB.keptB {g : Nat} {t : TypeId} {cs : Array Value} (h : FB w W A c l) (d : Kept [g] W W') (B : Blk W g t cs) (f : t ≠ 5) : FB w W' A c l:=Fresh.kept h d fun b a i=>by
  obtain rfl:=List.mem_singleton.1 i
  exact Bc (Fresh.own h) B f (by simpa using (Ag A l.length c b).2 a)
theorem FB.rel {L : List Nat} (h : FB w W A c l) (d : Kept L w W) (a : Kept (Value.slice A l.length c).ownBlock.toList W W') : Kept L w W':=d.trans a fun x g f=>by
  have:=Fresh.lo h x ((Ag A l.length c x).1 (by simpa using g))
  omega
theorem _root_.Go.Hub.App.nextB {a : List Value} {m : Nat} (h : App W W' 5 1 A l.length c (l.map u8) a m A' c') (F : FB w W A c l) (g : w.heap.size ≤ W.heap.size) (b : List UInt8) (f : a = b.map u8) (d : m = b.length) : FB w W' A' c' (l ++ b):=by
  subst f d;have:=h.next F g
  unfold FB;rw [List.length_append,List.map_append];exact this
theorem I0 (F : FB w W A c (l ++ b)) {m : Nat} (a : m = b.length) : Value.slice A (l.length + m) c = .slice A (l ++ b).length c:=by rw [List.length_append,a]
def Tp (w W : World) (A : Option Addr) (c : Nat) (l b : List UInt8) (e : Ending) (w' : World) : Prop:=∃ A' c',e = .returned (.slice A' (l ++ b).length c') ∧ FB w w' A' c' (l ++ b) ∧ Kept (Value.slice A l.length c).ownBlock.toList W w'
theorem AppPost.buf {e : Ending} (h : AppPost W A l.length c (l.map u8) b e W') (F : FB w W A c l) (d : w.heap.size ≤ W.heap.size) : Tp w W A c l b e W':=by
  obtain ⟨A',c',rfl,a⟩:=h;exact ⟨A',c',by rw [List.length_append],Go.Hub.App.nextB a F d b rfl rfl,a.kept⟩
theorem y2f (A : Option Addr) (c : Nat) (l : List UInt8) (n : Int) (w W : World) (F : FB w W A c l) (a : w.heap.size ≤ W.heap.size) (d : l.length ≤ 5000000000000) : Calls Tryz.prog 98 #[.slice A l.length c,.int .i64 n] W fun e w'=>Tp w W A c l (F9 n) e w':=
  (Uu A l.length c _ n W F.own (by omega)).mono fun e w' h=>AppPost.buf h F a
theorem y3b (A : Option Addr) (c : Nat) (l : List UInt8) (b : ByteArray) (w W : World) (F : FB w W A c l) (f : w.heap.size ≤ W.heap.size) (d : l.length ≤ 5000000000000) (a : b.size ≤ 1000000) : Calls Tryz.prog 97 #[.slice A l.length c,.string b] W fun e w'=>Tp w W A c l (Dh b.toList) e w':=
  (x0w A l.length c _ b W F.own d a).mono fun e w' h=>AppPost.buf h F f
theorem FB.lw {a : World} (h : FB w W A c l) (d : a.heap.size ≤ w.heap.size) : FB a W A c l:=Fresh.lw h d
theorem FB.short {r t : List UInt8} (d : FB w W A c l) (a : l ++ r = t) (f : t.length ≤ 3000000000000) : l.length ≤ 3000000000000:=by
  have:=congrArg List.length a;rw [List.length_append] at this;omega
theorem NewB.of (a : Kept [] w W) (F : FB w W A c l) (h : l = b) : NewB b w (.returned (.slice A l.length c)) W:=by
  subst h;exact ⟨a,A,c,rfl,F⟩
theorem Uw {α : Type} (l : List α) {k : Nat} (h : l.length ≤ k) : l.drop k = []:=List.drop_eq_nil_of_le h
theorem x4m {α : Type} {l : List α} {k : Nat} {d : α} (a : l[k]? = some d) : l.drop k = d :: l.drop (k + 1):=by
  obtain ⟨h,e⟩:=List.getElem?_eq_some_iff.1 a;rw [List.drop_eq_getElem_cons h,e]
theorem x4n (k : Int) (x : ByteArray × Int) : (Us k x).length ≤ 3 + x.1.size:=by unfold Us; rw [List.length_append,Bz,Bh]; split <;> simp <;> omega
theorem M5 : ∀ (k : Int) (l : List (ByteArray × Int)), (∀ x ∈ l, x.1.size ≤ 1000000) → (l.flatMap (Us k)).length ≤ l.length * 1000003
  | _,[],_=>by simp
  | k,x :: r,h=>by
    have h1:=x4n k x
    have d:=h x (by simp)
    have f:=M5 k r fun y a=>h y (by simp [a])
    rw [List.flatMap_cons,List.length_append,List.length_cons]
    omega
theorem Se {p : Pk} (f : p.Len) : (M3 p).length ≤ 10000000:=by
  obtain ⟨g,h,i,j,k,m,n,o,q,a⟩:=f;have d : x9e.toList.length = 4:=by rw [Bh]; rfl
  unfold M3;simp only [List.length_append,Bz,B1,Bh,List.length_cons,List.length_nil,d]
  repeat' split
  all_goals simp only [List.length_append,Bz,Bh,List.length_nil]
  all_goals have r : x9e.size = 4:=rfl
  all_goals omega
theorem x1b {p : Pk} (d : p.Len) : (Gf p).length ≤ 3000000000000:=by
  have r:=Se d;obtain ⟨f,g,h,i,j,k,m,n,o,a⟩:=d;have q:=M5 p.kind p.subs a;unfold Gf
  split
  · omega
  split
  · simp
  split
  · simp only [List.length_append, Bz, Bh]
    have : (if 0 < p.qos then F9 p.id else []).length ≤ 2:=by split <;> simp [B1]
    omega
  split
  · simp
  simp only [List.length_append,List.length_map,B1];omega
theorem W7 {p : Pk} (h : ¬ p.kind = 1 ∧ ¬ p.kind = 2 ∧ ¬ p.kind = 3 ∧ ¬ p.kind = 12 ∧ ¬ p.kind = 13 ∧ ¬ p.kind = 14) : Gf p = F9 p.id ++ p.subs.flatMap (Us p.kind) ++ p.codes.map b8:=by
  obtain ⟨a,d,f,g,i,j⟩:=h;have : Da p.kind 12 14 = false:=by simp [Da]; omega
  simp [Gf,a,d,f,this]
theorem Sf (l : List UInt8) : (⟨l.toArray⟩ : ByteArray).size = l.length:=by simp [ByteArray.size]
end
theorem Ux (p : Pk) (s : Ad) (w : World) (IP : p.In w s) (hL : p.Len) (cy : p.kind = 1 → 0 ≤ p.wq ∧ p.wq ≤ 2) (cx : p.kind ≠ 1) (cz : p.subs.length = 0) : Calls Tryz.prog 80 #[.agg (p.cells s)] w (fun e w'=>NewB (Gf p) w e w'):=by
 have j : Kept [] w w:=Kept.refl [] w;have ah:=x1b hL;obtain ⟨L1,L2,L3,L4,L5,L6,L7,L8,L9,az⟩:=hL;have cs:=Jt p.clean 2 (by omega);have ct:=Jt p.hasWill 4 (by omega);have cu:=Jt p.wr 32 (by omega);have cv:=Jt p.hasPass 64 (by omega);have cw:=Jt p.hasUser 128 (by omega);have v : FB w w none 0 []:=FB.nil _ _;have bf : (M3 p).length ≤ 3000000000000:=by have:=Se (p:=p) ⟨L1,L2,L3,L4,L5,L6,L7,L8,L9,az⟩; omega
 refine Bw Tryz.func80 Tryz.ntmps80 fun _ f=>?_;refine C.sk fun _ k1=>?_;refine L.box f Aa (by decide) rfl rfl fun _ w1 g0 N f=>?_;obtain ⟨h,q,ak,bj,bn⟩:=N.al;have ba:=j.lo ak;replace j:=j.z q;replace v:=v.k0 q;clear N q;refine pe f k1 fun _ f=>?_;refine pr f fun _ f=>?_;refine wp_seq_k fun _ k1=>?_;refine pr f fun _ f=>?_;refine wp_block ?_;refine pr f fun _ f=>?_;refine f.sD 8 rfl (fun h0 g=>?_) (fun h0 g=>?_)
 ·clear f
  exfalso
  omega
 refine C.cF g rfl ?_;refine pr g fun _ f=>?_;refine C.sp f (fun h1 f=>?_) (fun h1 f=>?_)
 ·refine wp_seq_k fun _ y=>?_;have r:=dk w1 1;refine R.bT (S:=fun W=>(Kept [] w W) ∧ (Blk W g0 39 (p.cells s))) (by kernel_rfl) (by kernel_rfl) ⟨j.z r,h.z r⟩ fun ht=>?_;obtain ⟨w2,a7⟩ : ∃ W,W = w1.drewN 1:=⟨_,rfl⟩;rw [← a7] at r ⊢;clear a7;have a8:=r.size;replace j:=j.z r;replace v:=v.k0 r;replace h:=h.z r;clear r;refine rs [0,1,2,5,6] f fun _ g=>?_;refine R.u 7 g rfl ht ⟨j,h⟩ (fun W hW=>(E.conv g U3 U5 rfl (wrap_u8 _))) fun _ g=>?_;refine R.cl 3 g rfl (Bm g Tryz.call79) (Tm _ _ _) ?_;rintro e d2 ⟨rfl,rfl⟩;refine ⟨_,rfl,⟨j,h⟩,fun _ g=>?_⟩;refine R.u 4 g rfl ht ⟨j,h⟩ (fun W hW=>(E.conv g U3 U5 rfl (wrap_u8 _))) fun _ g=>?_;refine R.on 8 ?_;refine O.buildSlice g rfl Aa (by decide) (pL g rfl) U33 Zd rfl rfl (Ze _ _) (fun _ hk=>⟨j.z hk,h.z hk⟩) fun _ w3 g2 N b3 g=>?_;clear b3;obtain ⟨ax,q,ao,bl,a9⟩:=N.al;have bb:=j.lo ao;have aq : g0 ≠ g2:=by have:=h.lt; omega
  replace j:=j.z q;replace v:=v.k0 q;replace h:=h.z q;clear N q;refine R.on 9 ?_;refine O.append g rfl Aa (by decide) U33 Z9 rfl rfl rfl rfl v.own (Blk.sl1 ax rfl) (by intro u hu; simp at hu; rcases hu with rfl | rfl <;> rfl) (by (simp [Bz,B1,Bh,maxLen]; done)) (by omega) fun _ w4 A4 c4 a0=>?_;have a4:=a0.nextB v j.size ([b8 (M2 p.present 1),b8 p.code]) (by simp [Ym]) (by simp);have o:=a0.kept;have au:=o.size;replace j:=v.rel j o;replace h:=h.kept o (Bc v.own h (by decide));refine ⟨⟨j,h⟩,fun g=>?_⟩;clear o a0 v;have g:=g.as (i:=86) rfl (I0 a4 (by simp));refine rs [10] g fun _ g=>?_;refine R.dn y ?_;refine Gc g ?_;exact NewB.of j a4 (by simp [Gf,M3, *])
 refine pr f fun _ f=>?_;refine C.sp f (fun h2 f=>?_) (fun h2 f=>?_)
 ·refine C.sk fun _ y=>?_;refine L.s f fun _ g=>?_;(iterate 2 refine L.s g fun _ g=>?_);have a5:=fun b hb=>y3b _ _ _ b w _ v j.size (by (simp [Bz,B1,Bh,maxLen]; done)) hb;refine L.cl g (Bm g Tryz.call97) (a5 _ (by omega)) ?_;rintro e w2 ⟨A2,c2,rfl,t,q⟩;refine ⟨_,rfl,fun _ g=>?_⟩;have a8:=q.size;replace j:=v.rel j q;replace h:=h.kept q (Bc v.own h (by decide));clear q;clear v a5;refine pe g y fun _ g=>?_;refine wp_seq_k fun _ y=>?_;refine pr g fun _ g=>?_;refine C.sp g (fun h3 g=>?_) (fun h3 g=>?_)
  ·refine C.region ?_;refine L.s g fun _ m=>?_;(iterate 2 refine L.s m fun _ m=>?_);have ai:=fun n=>y2f _ _ _ n w _ t j.size (by (simp [Bz,B1,Bh,maxLen]; omega));refine L.cl m (Bm m Tryz.call98) (ai _) ?_;rintro e w3 ⟨A3,c3,rfl,x,q⟩;refine ⟨_,rfl,fun _ m=>?_⟩;have a9:=q.size;replace j:=t.rel j q;replace h:=h.kept q (Bc t.own h (by decide));clear q;clear t ai;refine pe m y fun _ m=>?_;refine C.sk fun _ k3=>?_;(iterate 3 refine L.s m fun _ m=>?_);refine L.append m Aa (by decide) U33 Z9 rfl rfl rfl rfl x.own (IP.pay.kept j) (Nz) (by (simp [Bz,B1,Bh,maxLen]; omega)) (by (simp [Bz,B1,Bh,maxLen]; omega)) fun _ w4 A4 c4 a0 m=>?_;have a4:=a0.nextB x j.size (p.pay) (rfl) (rfl);have o:=a0.kept;have au:=o.size;replace j:=x.rel j o;replace h:=h.kept o (Bc x.own h (by decide));clear o a0 x;have m:=m.as (i:=103) rfl (I0 a4 (rfl));refine re m k3 ?_;exact NewB.of j a4 (by simp [Gf,M3, *])
  refine wp_skip (y _ _ ?_);refine C.sk fun _ y=>?_;(iterate 3 refine L.s g fun _ g=>?_);refine L.append g Aa (by decide) U33 Z9 rfl rfl rfl rfl t.own (IP.pay.kept j) (Nz) (by (simp [Bz,B1,Bh,maxLen]; omega)) (by (simp [Bz,B1,Bh,maxLen]; omega)) fun _ w3 A3 c3 aa g=>?_;have x:=aa.nextB t j.size (p.pay) (rfl) (rfl);have a1:=aa.kept;have a9:=a1.size;replace j:=t.rel j a1;replace h:=h.kept a1 (Bc t.own h (by decide));clear a1 aa t;have g:=g.as (i:=103) rfl (I0 x (rfl));refine re g y ?_;exact NewB.of j x (by simp [Gf,M3, *])
 refine wp_seq_k fun _ y=>?_;refine pr f fun _ f=>?_;refine C.sp f (fun h4 f=>?_) (fun h4 f=>?_)
 ·refine wp_skip (y _ _ ?_);have g:=f.pk [1,3,104];refine C.cT g rfl ?_;refine rt g ?_;exact NewB.of j v (by simp [Gf,Da, *])
 refine pr f fun _ f=>?_;refine C.sp f (fun h5 f=>?_) (fun h5 f=>?_)
 ·refine wp_skip (y _ _ ?_);have g:=f.pk [1,3,104];refine C.cT g rfl ?_;refine rt g ?_;exact NewB.of j v (by simp [Gf,Da, *])
 refine Ib f y fun _ f=>?_;refine C.sp f (fun h6 f=>?_) (fun h6 f=>?_)
 ·refine rt f ?_;exact NewB.of j v (by simp [Gf,Da, *])
 refine wp_skip (k1 _ _ ?_);refine C.sk fun _ k1=>?_;(iterate 3 refine L.s f fun _ f=>?_);have a5:=fun n=>y2f _ _ _ n w _ v j.size (by (simp [Bz,B1,Bh,maxLen]; done));refine L.cl f (Bm f Tryz.call98) (a5 _) ?_;rintro e w2 ⟨A2,c2,rfl,t,q⟩;refine ⟨_,rfl,fun _ f=>?_⟩;have a8:=q.size;replace j:=v.rel j q;replace h:=h.kept q (Bc v.own h (by decide));clear q;clear v a5;refine pe f k1 fun _ f=>?_;refine wp_seq_k fun _ k1=>?_;refine pr f fun _ f=>?_;refine wp_block ?_;refine C.loop (fun gk a W=>∃ (k : Nat) (A : Option Addr) (c : Nat) (l : List UInt8),k + gk = p.subs.length ∧ Kept [] w W ∧ Blk W g0 39 (p.cells s) ∧ FB w W A c l ∧ l ++ ((p.subs.drop k).flatMap (Us p.kind) ++ p.codes.map b8) = Gf p ∧ Fr 157 a [(1,.pointer (some ⟨g0,0,none⟩)),(3,.slice A l.length c),(4,.int .i64 k)]) (p.subs.length) ?_ ?_
 ·exact ⟨0,_,_,_,by omega,j,h,t,by rw [W7 (by omega)]; simp,f.sub (sr rfl (sr rfl (sr rfl sn)))⟩
 intro bd _ w3 hI b7 b2;obtain ⟨k,A,c,l,hk,j,h,FL,hq,g⟩:=hI
 try clear f
 have b4:=FB.short FL hq ah;have b5:=j.size;refine wp_seq_k fun _ _=>?_;refine pr g fun _ f=>?_;refine f.sD 116 rfl (fun h7 g=>?_) (fun h7 g=>?_)
 ·clear f
  exfalso
  omega
 refine C.cF g rfl ?_;refine wp_exit (k1 _ _ ?_);have f:=g.pk [1,3];refine wp_seq_k fun _ k1=>?_;refine pr f fun _ f=>?_;refine wp_block ?_;refine C.loop (fun gk a W=>∃ (k : Nat) (A : Option Addr) (c : Nat) (l : List UInt8),k + gk = p.codes.length ∧ Kept [] w W ∧ Blk W g0 39 (p.cells s) ∧ FB w W A c l ∧ l ++ ((p.codes.drop k).map b8) = Gf p ∧ Fr 157 a [(1,.pointer (some ⟨g0,0,none⟩)),(3,.slice A l.length c),(5,.int .i64 k)]) (p.codes.length) ?_ ?_
 ·exact ⟨0,_,_,_,by omega,j,h,FL,by rw [← hq,Uw p.subs (by omega)]; simp,f.sub (sr rfl (sr rfl (sr rfl sn)))⟩
 intro ag _ w4 hI b9 ad;obtain ⟨k,A,c,l,hk,j,h,FL,hq,g⟩:=hI
 try clear f
 have b4:=FB.short FL hq ah;have b5:=j.size;refine wp_seq_k fun _ y=>?_;refine pr g fun _ f=>?_;refine f.sD 144 rfl (fun h8 f=>?_) (fun h8 f=>?_)
 ·obtain ⟨d,hd⟩:=Bn p.codes k (by omega);obtain ⟨bk,d1,hA⟩:=IP.codes.addr (by omega);refine C.cT f rfl ?_;refine wp_skip (y _ _ ?_);have g:=f.pk [1,3,5];refine wp_seq_k fun _ y=>?_;refine wp_block ?_;refine C.region ?_;(iterate 5 refine L.s g fun _ g=>?_);refine L.lo g (Dp (IP.codes.kept j) hA hd) fun _ g=>?_;refine L.va g (E.conv g U3 U5 rfl (wrap_u8 _)) fun _ g=>?_;refine L.buildSlice g Aa (by decide) (pL g rfl) U33 Zd rfl rfl (Zg _) fun _ w5 g4 N g=>?_;obtain ⟨ay,q,ap,bm,bo⟩:=N.al;have bc:=j.lo ap;have ar : g0 ≠ g4:=by have:=h.lt; omega
  replace j:=j.z q;replace h:=h.z q;replace FL:=FL.k0 q;clear N q;refine L.append g Aa (by decide) U33 Z9 rfl rfl rfl rfl FL.own (Blk.sl1 ay rfl) (by intro u hu; simp at hu; subst hu; rfl) (by (simp [Bz,B1,Bh,maxLen]; omega)) (by omega) fun _ w6 A6 c6 ab g=>?_;have af:=ab.nextB FL j.size ([b8 d]) (by simp [Ym]) (by simp);have a2:=ab.kept;have bp:=a2.size;replace j:=FL.rel j a2;replace h:=h.kept a2 (Bc FL.own h (by decide));clear a2 ab FL;have g:=g.as (i:=155) rfl (I0 af (by simp));refine pe g y fun _ g=>?_;refine C.region ?_;(iterate 3 refine L.s g fun _ g=>?_);refine wpList_nil (ad _ _ (ag - 1) ?_ ?_)
  ·omega
  exact ⟨k + 1,_,_,_,by omega,j,h,af,by rw [← hq,x4m hd]; (simp [Us, *]; done),g.sub (sr rfl (sr rfl (sr rfl sn)))⟩
 refine C.cF f rfl ?_;refine wp_exit (k1 _ _ ?_);refine rt f ?_;exact NewB.of j FL (by rw [← hq,Uw p.codes (by omega)]; simp)
end Go.Proofs.YtkdeedhjkjffpaaGreat
namespace Go.Hub
open Go.Vl
structure RightP (p : Pk) : Prop where
  kd : Da p.kind 1 14 = true
  bare : p = Ak p
  val : Nf p = true
  len : (Ac p).length ≤ 127
  nk : p.kind ≠ 1 ∧ p.kind ≠ 8 ∧ p.kind ≠ 10
theorem bro_cases {p : Pk} (R : RightP p) : p.kind = 3 ∨ p.kind = 2 ∨ p.kind = 9 ∨ (p.kind = 4 ∨ p.kind = 5 ∨ p.kind = 6 ∨ p.kind = 7 ∨ p.kind = 11) ∨ (p.kind = 12 ∨ p.kind = 13 ∨ p.kind = 14):=by
  have:=Hr.1 R.kd;have:=R.nk;omega
theorem x4o : ∀ d r : Bool, ∀ q ∈ ([0, 1, 2] : List Int), (d = true → 0 < q) →
    let c:=(3 : Int) * 16 + (M2 d 8 + 2 * q + M2 r 1)
    Fs c 8 = d ∧ c / 2 % 4 = q ∧ Fs c 1 = r ∧ c / 16 = 3 ∧ 0 ≤ c ∧ c ≤ 255 ∧ Ie c = true:=by decide
theorem Mj {p : Pk} (h : RightP p) (a : p.kind = 3) : (0 ≤ p.qos ∧ p.qos ≤ 2) ∧ (p.dup = true → 0 < p.qos):=by
  have b:=h.val;simp [Nf,a,Da] at b;refine ⟨b.2.1,fun d=>?_⟩;have c:=h.bare
  have : p.dup = (p.dup && decide (0 < p.qos)):=by
    conv=>lhs; rw [c]
    simp [Ak,a]
  rw [d] at this
  simpa using this.symm
theorem y3c {p : Pk} (a : p.kind = 3) : Bi p = 3 * 16 + (M2 p.dup 8 + 2 * p.qos + M2 p.retain 1):=by simp [Bi,a]
theorem Yp {p : Pk} (h : RightP p) (b : p.kind = 3) : Fs (Bi p) 8 = p.dup ∧ Bi p / 2 % 4 = p.qos ∧ Fs (Bi p) 1 = p.retain ∧ Bi p / 16 = 3 ∧ 0 ≤ Bi p ∧ Bi p ≤ 255 ∧ Ie (Bi p) = true:=by
  obtain ⟨d,c⟩:=Mj h b;rw [y3c b]
  have a : p.qos ∈ [0,1,2]:=by
    have : p.qos = 0 ∨ p.qos = 1 ∨ p.qos = 2:=by omega
    simpa using this
  exact x4o p.dup p.retain p.qos a c
theorem x1c : ∀ k ∈ ([1,2,4,5,6,7,8,9,10,11,12,13,14] : List Int),∀ c : Int,c = k * 16 + (if k = 6 ∨ k = 8 ∨ k = 10 then 2 else 0) → c / 16 = k ∧ 0 ≤ c ∧ c ≤ 255 ∧ Ie c = true:=by
  intro k b c a;subst a
  revert k
  decide
theorem x1d {p : Pk} (h : RightP p) (a : p.kind ≠ 3) : Bi p / 16 = p.kind ∧ 0 ≤ Bi p ∧ Bi p ≤ 255 ∧ Ie (Bi p) = true:=by
  refine x1c p.kind ?_ _ ?_
  · rcases kind_cases h.kd with e | e | e | e | e | e | e | e | e | e | e | e | e | e <;> first | exact absurd e a | simp [e]
  simp [Bi,a]
theorem Kh {p : Pk} (h : RightP p) : Bi p / 16 = p.kind ∧ 0 ≤ Bi p ∧ Bi p ≤ 255 ∧ Ie (Bi p) = true:=by
  by_cases f : p.kind = 3
  · obtain ⟨_, _, _, a, b, c, d⟩ := Yp h f
    exact ⟨by rw [a,f],b,c,d⟩
  exact x1d h f
theorem Ju {p : Pk} (h : RightP p) : ((b8 (Bi p)).toNat : Int) = Bi p:=by
  have:=Kh h;rw [Ti];omega
theorem Yq {p : Pk} (h : RightP p) (c : Bv p = true) : 0 ≤ p.id ∧ p.id ≤ 65535:=by
  have a:=h.val;unfold Nf at a;rw [Bool.and_eq_true] at a;have b:=a.1;rw [c] at b;simp [Da] at b;omega
theorem Sg (x : List UInt8) : Rd.takeR ⟨x,false⟩ x.length = (x,⟨[],false⟩):=by
  have e:=Iy [] x
  rwa [List.append_nil] at e
theorem x9h {p : Pk} (h : RightP p) (b : p.kind = 9) : ∀ x ∈ p.codes,0 ≤ x ∧ x ≤ 255:=fun x c=>by
  have a:=h.val
  simp [Nf,b,Qv,Da] at a
  have:=a.2.2 x c
  omega
theorem x9i (b : Bool) : 0 ≤ M2 b 1 ∧ M2 b 1 ≤ 255:=by cases b <;> decide
theorem x9j (b : Bool) : decide (M2 b 1 = 1) = b:=by cases b <;> decide
theorem x4p {p : Pk} (h : RightP p) (a : p.kind = 2) : 0 ≤ p.code ∧ p.code ≤ 255:=by
  have b:=h.val;simp [Nf,a,Da] at b;omega
theorem y3d {p : Pk} (h : RightP p) (a : p.kind = 3) : p.topic.size ≤ 65535:=by
  have b:=h.val;simp [Nf,a,Da,K3] at b;omega
theorem Ih {p : Pk} (R : RightP p) : Bt (Bi p) ⟨Ac p,false⟩ = (p,⟨[],false⟩):=by
  have d:=R.bare;have i:=(Kh R).1
  rcases bro_cases R with h | h | h | h | h
  · have a : p.subs = [] := by rw [d]; simp [Ak, h, Bv, Da]
    have b : p.codes = []:=by rw [d]; simp [Ak,h,Bv,Da]
    have o:=y3d R h;obtain ⟨l,m,n,_⟩:=Yp R h;have f : Ac p = Dh p.topic.toList ++ ((if 0 < p.qos then F9 p.id else []) ++ p.pay):=by simp [Ac,h,Bv,a,b]
    unfold Bt;rw [i,if_neg (by omega),if_neg (by omega),if_pos h,f,l,m,n,h];simp only [x0r _ _ o]
    by_cases g : 0 < p.qos
    · have j := Yq R (by simp [Bv, h, g])
      simp only [if_pos g,Kd _ _ j,Sg];rw [Prod.mk.injEq];refine ⟨?_,rfl⟩
      conv=>rhs; rw [d]
      simp [Ak,h,g]
    simp only [if_neg g,List.nil_append,Sg];rw [Prod.mk.injEq];refine ⟨?_,rfl⟩
    have k : p.dup = false:=by
      have:=(Mj R h).2;cases hx : p.dup
      · rfl
      exact absurd (this hx) g
    conv=>rhs; rw [d]
    simp [Ak,h,g,k]
  · unfold Bt
    rw [i,if_neg (by omega),if_pos h,h];have f : Ac p = [b8 (M2 p.present 1),b8 p.code]:=by simp [Ac,h]
    rw [f];simp only [N4 _ _ (x9i p.present),N4 _ _ (x4p R h),x9j];rw [Prod.mk.injEq];refine ⟨?_,rfl⟩
    conv=>rhs; rw [d]
    simp [Ak,h]
  · unfold Bt
    rw [i,h];rw [if_neg (by decide),if_neg (by decide),if_neg (by decide)];have a : p.subs = []:=by rw [d]; simp [Ak,h,Bv,Da]
    have c : p.pay = []:=by rw [d]; simp [Ak,h,Bv,Da]
    have j:=Yq R (by simp [Bv,h,Da]);have f : Ac p = F9 p.id ++ p.codes.map b8:=by simp [Ac,h,Bv,Da,a,c]
    rw [f,if_neg (by decide)];simp only [Kd _ _ j];rw [if_neg (by decide),if_pos (by decide),M4 p.codes _ _ (x9h R h) (Nat.le_refl _),Prod.mk.injEq];refine ⟨?_,rfl⟩
    conv=>rhs; rw [d]
    simp [Ak,h,Bv,Da]
  · rcases h with h | h | h | h | h
    all_goals
      unfold Bt;rw [i,h];rw [if_neg (by decide),if_neg (by decide),if_neg (by decide)];have a : p.subs = []:=by rw [d]; simp [Ak,h,Bv,Da]
      have b : p.codes = []:=by rw [d]; simp [Ak,h,Bv,Da]
      have c : p.pay = []:=by rw [d]; simp [Ak,h,Bv,Da]
      have j:=Yq R (by simp [Bv,h,Da]);have f : Ac p = F9 p.id ++ []:=by simp [Ac,h,Bv,Da,a,b,c]
      rw [f,if_neg (by decide)];simp only [Kd _ _ j];rw [if_neg (by decide),if_neg (by decide),Prod.mk.injEq];refine ⟨?_,rfl⟩
      conv=>rhs; rw [d]
      simp [Ak,h,Bv,Da]
  rcases h with h | h | h
  all_goals
    unfold Bt;rw [i,h];rw [if_neg (by decide),if_neg (by decide),if_neg (by decide)];have a : p.subs = []:=by rw [d]; simp [Ak,h,Bv,Da]
    have b : p.codes = []:=by rw [d]; simp [Ak,h,Bv,Da]
    have c : p.pay = []:=by rw [d]; simp [Ak,h,Bv,Da]
    have f : Ac p = []:=by simp [Ac,h,Bv,Da,a,b,c]
    rw [f,if_pos (by decide),Prod.mk.injEq];refine ⟨?_,rfl⟩
    conv=>rhs; rw [d]
    simp [Ak,h,Bv,Da]
theorem x1e {p : Pk} (R : RightP p) : Tj p = true:=by
  have hs:=R.bare;have hv:=R.val;have hl:=R.len;have hm : Gr p (Ak p) = true:=Hq.2 hs;have hk:=R.kd;have hl2 : (Ac p).length ≤ 8192:=by omega
  rcases bro_cases R with h | h | h | h | h
  case' inr.inr.inr.inl=>rcases h with h | h | h | h | h
  case' inr.inr.inr.inr=>rcases h with h | h | h
  all_goals
    obtain ⟨kind,dup,retain,qos,id,topic,pay,level,client,clean,keep,hasWill,wt,wp,wq,wr,hasUser,hasPass,user,pass,present,code,subs,codes⟩:=p;simp only at h;subst h;simp [Ak,Bv,Da] at hs;simp [Nf,Bv,Da,Qv] at hv;simp only [Tj,hm,hk,Bool.true_and];simp only [hs] at hl2 ⊢;simp [Bv,Da,Qv,y2x,hl2]
    all_goals try simp [hs] at hv
    all_goals try grind
theorem y6k : ∀ c : Fin 256,H6 (c.val : Int) = Ie (c.val : Int):=by decide +kernel
theorem x9k (c : UInt8) : H6 (c.toNat : Int) = Ie (c.toNat : Int):=y6k ⟨c.toNat,c.toNat_lt⟩
theorem N6 {p : Pk} (R : RightP p) (x : List UInt8) : Sa (Gj (Ac p).length ++ (Ac p ++ x)) = (((Ac p).length : Int),((szN (Ac p).length : Nat) : Int),0):=
  x0p _ _ (by have:=R.len; omega) (Wu _ _)
theorem Uy (p : Pk) : (Fu p).length = 1 + szN (Ac p).length + (Ac p).length:=by
  unfold Fu;rw [List.length_append,List.length_cons,Dy];omega
theorem N7 (p : Pk) : Fu p = b8 (Bi p) :: (Gj (Ac p).length ++ Ac p):=rfl
theorem x1f {q : Pk} {a : UInt8} {t : List UInt8} (R : RightP q) (h : a :: t = Fu q) : (a.toNat : Int) = Bi q ∧ t = Gj (Ac q).length ++ Ac q:=by
  rw [N7] at h
  injection h with h1 h2
  exact ⟨by rw [h1]; exact Ju R,h2⟩
theorem x9l {q : Pk} {t : List UInt8} (R : RightP q) (h : t = Gj (Ac q).length ++ Ac q) : ∃ cz,t = cz :: Ac q ∧ cz.toNat < 128:=by
  have c:=R.len;have e : szN ((Ac q).length : Int) = 1:=by unfold szN; rw [if_neg (by omega),if_pos (by omega)]
  have b : Gj ((Ac q).length : Int) = [Gq (Ac q).length 0 1]:=by unfold Gj; rw [e]; rfl
  refine ⟨Gq (Ac q).length 0 1,by rw [h,b]; rfl,?_⟩;have a:=G3 ((Ac q).length : Int) 0 1;unfold Kc at a;rw [if_neg (by omega),Int.pow_zero,Int.ediv_one] at a;omega
theorem x4q (n : Int) (x : List UInt8) : ((Gj n ++ x).drop (szN n)).take x.length = x:=by
  rw [← Dy n,List.drop_left,List.take_length]
theorem x9m {p q : Pk} (R : RightP p) (S : RightP q) (h : Fu p = Fu q) : p = q:=by
  rw [N7,N7] at h
  injection h with h1 h2
  have e : Bi p = Bi q:=by rw [← Ju R,← Ju S,h1]
  have a:=N6 R [];have c:=N6 S [];simp only [List.append_nil] at a c;rw [h2,c] at a
  injection a with r3 _
  have f : (Ac q).length = (Ac p).length:=by omega
  rw [f] at h2;have g:=List.append_cancel_left h2;have b:=Ih R;have d:=Ih S;rw [e,g,d] at b
  injection b with b3 _
  exact b3.symm
end Go.Hub
namespace Go.Proofs.YtkdeedhjkjffpaaGreat
open Go.RowKit Go.Hub Go.Lib Go.Vl
theorem y3e {p : Pk} (h : Nf p = true) (a : p.kind = 1) : 0 ≤ p.wq ∧ p.wq ≤ 2:=by
  unfold Nf at h;simp [a,Da] at h;omega
def y2g (p : Pk) : Bool:=p.subs.all fun x=>K3 x.1 && Da x.2 0 2 && (!decide (p.kind = 10) || decide (x.2 = 0))
def A1 (p : Pk) : Bool:=Da p.kind 1 14 && Gr p (Ak p) && (!Bv p || Da p.id 1 65535) && Da p.qos 0 2 && K3 p.topic && K3 p.client && K3 p.user && K3 p.wt && Da p.wq 0 2 && decide (p.wp.length ≤ 65535) && decide (p.pass.length ≤ 65535)
def A2 (p : Pk) : Bool:=Da p.level 0 255 && Da p.keep 0 65535 && (!p.hasPass || p.hasUser) && Da p.code 0 5 && (!p.present || decide (p.code = 0))
def A3 (p : Pk) : Bool:=(!(decide (p.kind = 8 ∨ p.kind = 10)) || decide (0 < p.subs.length)) && (!decide (p.kind = 9) || decide (0 < p.codes.length))
theorem x1g (p : Pk) : Tj p = (A1 p && A2 p && y2g p && Qv p.codes && A3 p && decide ((Ac p).length ≤ 8192)):=by
  simp only [Tj,A1,A2,A3,y2g,Bool.and_assoc]
theorem _root_.Go.Hub.RightP.z {p : Pk} (R : RightP p) : p.hasPass = false ∧ p.hasUser = false ∧ p.subs = []:=by
  have h:=R.nk;rw [R.bare];unfold Ak;rw [if_neg h.1]
  repeat' split
  all_goals first | exact ⟨rfl,rfl,rfl⟩ | (exfalso; omega)
theorem x1h (p : Pk) (s : Ad) (w : World) (b : p.In w s) (R : RightP p) : Calls Tryz.prog 94 #[.agg (p.cells s)] w (fun e w'=>Kept [] w w' ∧ ∃ tb,e = .returned (.agg (p.cells tb)) ∧ p.In w' tb):=by
  refine (x4l p s w b R.nk.1 R.nk.2).mono ?_;rintro e w' ⟨c,tb,d,a⟩;exact ⟨c,tb,by rw [d,← R.bare],by rw [← R.bare] at a; exact a⟩
theorem W8 (p : Pk) (s : Ad) (w : World) (IP : p.In w s) (hL : p.Len) (ad : RightP p) : Calls Tryz.prog 78 #[.agg (p.cells s)] w (fun e w'=>Kept [] w w' ∧ e = .returned (.bool true)):=by
 have j : Kept [] w w:=Kept.refl [] w;have ap:=x1e ad;rw [x1g] at ap;simp only [A1,A2,A3,Bool.and_eq_true] at ap;obtain ⟨⟨⟨⟨⟨⟨⟨⟨⟨⟨⟨⟨⟨⟨⟨n,u⟩,c3⟩,v⟩,x⟩,c6⟩,o⟩,c8⟩,r⟩,b3⟩,b4⟩,⟨⟨⟨⟨d1,d2⟩,d3⟩,d4⟩,d5⟩⟩,e1⟩,e2⟩,⟨e3,e4⟩⟩,e5⟩:=ap
 replace c3 : Bv p = true → Da p.id 1 65535 = true:=fun h=>by simpa [h] using c3
 have b9 : p.kind = 9 → ¬ p.codes = []:=fun h e=>by rw [e,h] at e4; simp at e4
 have ck:=of_decide_eq_true b3;have cm:=of_decide_eq_true b4;have l4:=of_decide_eq_true e5;have b8 : Gf p = Ac p:=Yl p n ad.bare;obtain ⟨z1,z2,t⟩:=ad.z;have z4 : p.subs.length = 0:=by rw [t]; rfl
 obtain ⟨n1,n8,cp⟩:=ad.nk;refine Bw Tryz.func78 Tryz.ntmps78 fun _ f=>?_;refine C.sk fun _ k1=>?_;refine L.box f Aa (by decide) rfl rfl fun _ w1 g0 N f=>?_;obtain ⟨g,q,aw,bl,bm⟩:=N.al;have bf:=j.lo aw;replace j:=j.z q;clear N q;refine pe f k1 fun _ f=>?_;obtain ⟨J3,af⟩ : ∃ J : Act → World → Prop,J = fun a W=>Kept [] w W ∧ Blk W g0 39 (p.cells s) ∧ Fr 201 a [(1,.pointer (some ⟨g0,0,none⟩))]:=⟨_,rfl⟩;refine C.cut J3 ?_ ?_
 ·as_aux_lemma=>
  refine wp_seq_k fun _ k1=>?_;have a8:=dk w1 1;refine R.bT (S:=fun W=>(Kept [] w W) ∧ (Blk W g0 39 (p.cells s))) (by kernel_rfl) (by kernel_rfl) ⟨j.z a8,g.z a8⟩ fun ht=>?_;obtain ⟨w2,ai⟩ : ∃ W,W = w1.drewN 1:=⟨_,rfl⟩;rw [← ai] at a8 ⊢;clear ai;have bn:=a8.size;replace j:=j.z a8;replace g:=g.z a8;clear a8;refine rs [0,1] f fun _ b=>?_;refine R.cl 2 b rfl (Ji b Tryz.call92) (F8 _ _ _ _) ?_;rintro e aq ⟨rfl,rfl⟩;refine ⟨_,rfl,⟨j,g⟩,fun _ b=>?_⟩;refine rs [3,4] b fun _ b=>?_;have b:=b.as (i:=9) (v':=.bool false) rfl (by (simp [n,u,v,x,c6,o,c8,r,d1,d2,d4,z1,t]; done));refine rs [5,6] b fun _ b=>?_;refine R.call 7 b rfl rfl (by decide) (by kernel_rfl) b.y (Dt b Tryz.call94) (x1h p s _ (IP.kept j) ad) ?_;rintro e w3 ⟨q,tb,rfl,m⟩;have bo:=q.size;replace j:=j.z q;replace g:=g.z q;refine ⟨_,rfl,⟨j,g⟩,fun _ b=>?_⟩;clear q;refine R.call 8 b rfl rfl (by decide) (by kernel_rfl) b.y (Bm b Tryz.call93) (x1a p s tb _ (IP.kept j) m hL.subs hL.codes) ?_;rintro e w4 ⟨q,rfl⟩;have bp:=q.size;replace j:=j.z q;replace g:=g.z q;replace m:=m.kept q;refine ⟨_,rfl,⟨j,g⟩,fun _ b=>?_⟩;clear q;refine rs [9,10,11] b fun _ b=>?_;have b:=b.as (i:=16) (v':=.bool false) rfl (by rfl);refine rs [12] b fun _ b=>?_
  refine R.call 13 b rfl rfl (by decide) (by kernel_rfl) b.y (Dt b Tryz.call95) (x4d p s _) ?_;rintro e w5 ⟨q,rfl⟩;have bq:=q.size;replace j:=j.z q;replace g:=g.z q;replace m:=m.kept q;refine ⟨_,rfl,⟨j,g⟩,fun _ b=>?_⟩;clear q;refine rs [14] b fun _ b=>?_;refine b.split 19 rfl (fun h0 b=>?_) (fun h0 b=>?_)
  ·as_aux_lemma=>
   refine rs [15,16] b fun _ c=>?_;refine R.call 17 c rfl rfl (by decide) (by kernel_rfl) c.y (Ji c Tryz.call92) (F8 _ _ _ _) ?_;rintro e ar ⟨rfl,rfl⟩;refine ⟨_,rfl,⟨j,g⟩,fun _ c=>?_⟩;refine rs [18,19,20,21] c fun _ c=>?_;have c:=c.as (i:=26) (v':=.bool false) rfl (by (simp [c3 (by assumption)]; done));refine rs [22,23] c fun _ c=>?_;refine R.call 24 c rfl rfl (by decide) (by kernel_rfl) c.y (Ji c Tryz.call92) (F8 _ _ _ _) ?_;rintro e ar ⟨rfl,rfl⟩;refine ⟨_,rfl,⟨j,g⟩,fun _ c=>?_⟩;refine rs [25,26,27] c fun _ c=>?_;have c:=c.as (i:=32) (v':=.bool false) rfl (by (simp [n,u,v,x,c6,o,c8,r,d1,d2,d4,z1,t]; done));refine rs [28,29] c fun _ c=>?_;refine R.call 30 c rfl rfl (by decide) (by kernel_rfl) c.y (Dt c Tryz.call96) (Fg _ _) ?_;rintro e w6 ⟨q,rfl⟩;have ax:=q.size;replace j:=j.z q;replace g:=g.z q;replace m:=m.kept q;refine ⟨_,rfl,⟨j,g⟩,fun _ c=>?_⟩;clear q;refine rs [31,32,33] c fun _ c=>?_;have c:=c.as (i:=38) (v':=.bool false) rfl (by (simp [n,u,v,x,c6,o,c8,r,d1,d2,d4,z1,t]; done));refine rs [34,35] c fun _ c=>?_;refine R.call 36 c rfl rfl (by decide) (by kernel_rfl) c.y (Dt c Tryz.call96) (Fg _ _) ?_;rintro e w7 ⟨q,rfl⟩;have aj:=q.size;replace j:=j.z q;replace g:=g.z q;replace m:=m.kept q
   refine ⟨_,rfl,⟨j,g⟩,fun _ c=>?_⟩;clear q;refine rs [37,38,39] c fun _ c=>?_;have c:=c.as (i:=44) (v':=.bool false) rfl (by (simp [n,u,v,x,c6,o,c8,r,d1,d2,d4,z1,t]; done));refine rs [40,41] c fun _ c=>?_;refine R.call 42 c rfl rfl (by decide) (by kernel_rfl) c.y (Dt c Tryz.call96) (Fg _ _) ?_;rintro e w8 ⟨q,rfl⟩;have ay:=q.size;replace j:=j.z q;replace g:=g.z q;replace m:=m.kept q;refine ⟨_,rfl,⟨j,g⟩,fun _ c=>?_⟩;clear q;refine rs [43,44,45] c fun _ c=>?_;have c:=c.as (i:=50) (v':=.bool false) rfl (by (simp [n,u,v,x,c6,o,c8,r,d1,d2,d4,z1,t]; done));refine rs [46,47,48] c fun _ c=>?_;refine R.call 49 c rfl rfl (by decide) (by kernel_rfl) c.y (Dt c Tryz.call96) (Fg _ _) ?_;rintro e w9 ⟨q,rfl⟩;have az:=q.size;replace j:=j.z q;replace g:=g.z q;replace m:=m.kept q;refine ⟨_,rfl,⟨j,g⟩,fun _ c=>?_⟩;clear q;refine rs [50,51,52] c fun _ c=>?_;have c:=c.as (i:=57) (v':=.bool false) rfl (by (simp [n,u,v,x,c6,o,c8,r,d1,d2,d4,z1,t]; done));refine rs [53,54,55] c fun _ c=>?_;refine R.call 56 c rfl rfl (by decide) (by kernel_rfl) c.y (Ji c Tryz.call92) (F8 _ _ _ _) ?_;rintro e bb ⟨rfl,rfl⟩;refine ⟨_,rfl,⟨j,g⟩,fun _ c=>?_⟩;refine rs [57,58,59] c fun _ c=>?_
   have c:=c.as (i:=64) (v':=.bool false) rfl (by (simp [n,u,v,x,c6,o,c8,r,d1,d2,d4,z1,t]; done));refine rs [60,61,62,63,64,65,66] c fun _ c=>?_;have c:=c.as (i:=71) (v':=.bool false) rfl (by (rw [decide_eq_false]; omega));refine rs [67,68,69,70,71] c fun _ c=>?_;have c:=c.as (i:=76) (v':=.bool false) rfl (by (rw [decide_eq_false]; omega));refine R.dn k1 ?_;refine C.cF c rfl ?_;exact wp_skip (jK J3 (by rw [af]; exact ⟨j,g,c.sub (sx sn)⟩))
  refine R.runT [15,16,17,18,19,20] #[true,true,true,true,true,true,true,true,true,true,true,true,true,true,true,true,true,true,true,true,true,false,false,false,false,false,false,false,false,false,false,false,false,false,false,false,false,false,false,false,false,false,false,false,false,false,false,false,false,false,false,false,false,false,false,false,false,false,false,false,false,false,false,false,false,false,false,false,false,false,false,false] b ht (fun _ _ _ _ h=>h) ⟨j,g⟩ (by kernel_rfl) fun _ b=>?_;have b:=b.sub (sv 25 (.bool false) (pkT b [1]));refine rs [21] b fun _ b=>?_;have b:=b.as (i:=26) (v':=.bool false) rfl (by rfl);refine rs [22,23] b fun _ b=>?_;refine R.call 24 b rfl rfl (by decide) (by kernel_rfl) b.y (Ji b Tryz.call92) (F8 _ _ _ _) ?_;rintro e ar ⟨rfl,rfl⟩;refine ⟨_,rfl,⟨j,g⟩,fun _ b=>?_⟩;refine rs [25,26,27] b fun _ b=>?_;have b:=b.as (i:=32) (v':=.bool false) rfl (by (simp [n,u,v,x,c6,o,c8,r,d1,d2,d4,z1,t]; done));refine rs [28,29] b fun _ b=>?_;refine R.call 30 b rfl rfl (by decide) (by kernel_rfl) b.y (Dt b Tryz.call96) (Fg _ _) ?_;rintro e w6 ⟨q,rfl⟩;have ax:=q.size;replace j:=j.z q;replace g:=g.z q;replace m:=m.kept q;refine ⟨_,rfl,⟨j,g⟩,fun _ b=>?_⟩;clear q;refine rs [31,32,33] b fun _ b=>?_
  have b:=b.as (i:=38) (v':=.bool false) rfl (by (simp [n,u,v,x,c6,o,c8,r,d1,d2,d4,z1,t]; done));refine rs [34,35] b fun _ b=>?_;refine R.call 36 b rfl rfl (by decide) (by kernel_rfl) b.y (Dt b Tryz.call96) (Fg _ _) ?_;rintro e w7 ⟨q,rfl⟩;have aj:=q.size;replace j:=j.z q;replace g:=g.z q;replace m:=m.kept q;refine ⟨_,rfl,⟨j,g⟩,fun _ b=>?_⟩;clear q;refine rs [37,38,39] b fun _ b=>?_;have b:=b.as (i:=44) (v':=.bool false) rfl (by (simp [n,u,v,x,c6,o,c8,r,d1,d2,d4,z1,t]; done));refine rs [40,41] b fun _ b=>?_;refine R.call 42 b rfl rfl (by decide) (by kernel_rfl) b.y (Dt b Tryz.call96) (Fg _ _) ?_;rintro e w8 ⟨q,rfl⟩;have ay:=q.size;replace j:=j.z q;replace g:=g.z q;replace m:=m.kept q;refine ⟨_,rfl,⟨j,g⟩,fun _ b=>?_⟩;clear q;refine rs [43,44,45] b fun _ b=>?_;have b:=b.as (i:=50) (v':=.bool false) rfl (by (simp [n,u,v,x,c6,o,c8,r,d1,d2,d4,z1,t]; done));refine rs [46,47,48] b fun _ b=>?_;refine R.call 49 b rfl rfl (by decide) (by kernel_rfl) b.y (Dt b Tryz.call96) (Fg _ _) ?_;rintro e w9 ⟨q,rfl⟩;have az:=q.size;replace j:=j.z q;replace g:=g.z q;replace m:=m.kept q;refine ⟨_,rfl,⟨j,g⟩,fun _ b=>?_⟩;clear q;refine rs [50,51,52] b fun _ b=>?_
  have b:=b.as (i:=57) (v':=.bool false) rfl (by (simp [n,u,v,x,c6,o,c8,r,d1,d2,d4,z1,t]; done));refine rs [53,54,55] b fun _ b=>?_;refine R.call 56 b rfl rfl (by decide) (by kernel_rfl) b.y (Ji b Tryz.call92) (F8 _ _ _ _) ?_;rintro e bb ⟨rfl,rfl⟩;refine ⟨_,rfl,⟨j,g⟩,fun _ b=>?_⟩;refine rs [57,58,59] b fun _ b=>?_;have b:=b.as (i:=64) (v':=.bool false) rfl (by (simp [n,u,v,x,c6,o,c8,r,d1,d2,d4,z1,t]; done));refine rs [60,61,62,63,64,65,66] b fun _ b=>?_;have b:=b.as (i:=71) (v':=.bool false) rfl (by (rw [decide_eq_false]; omega));refine rs [67,68,69,70,71] b fun _ b=>?_;have b:=b.as (i:=76) (v':=.bool false) rfl (by (rw [decide_eq_false]; omega));refine R.dn k1 ?_;refine C.cF b rfl ?_;exact wp_skip (jK J3 (by rw [af]; exact ⟨j,g,b.sub (sx sn)⟩))
 as_aux_lemma=>
 intro _ w2 hj;rw [af] at hj;clear af J3;obtain ⟨j,g,b⟩:=hj
 try clear f
 obtain ⟨J5,ag⟩ : ∃ J : Act → World → Prop,J = fun a W=>Kept [] w W ∧ Blk W g0 39 (p.cells s) ∧ Fr 201 a [(1,.pointer (some ⟨g0,0,none⟩))]:=⟨_,rfl⟩;refine C.cut J5 ?_ ?_
 ·as_aux_lemma=>
  refine C.sk fun _ k1=>?_;refine L.s b fun _ f=>?_;refine L.s f fun _ f=>?_;refine L.cl f (Ji f Tryz.call92) (F8 _ _ _ _) ?_;rintro e aq ⟨rfl,rfl⟩;refine ⟨_,rfl,fun _ f=>?_⟩;(iterate 2 refine L.s f fun _ f=>?_);have f:=f.as (i:=81) (v':=.bool false) rfl (by (simp [n,u,v,x,c6,o,c8,r,d1,d2,d4,z1,t]; done));(iterate 2 refine L.s f fun _ f=>?_);refine L.cl f (Ji f Tryz.call92) (F8 _ _ _ _) ?_ (hw:=f.y);rintro e aq ⟨rfl,rfl⟩;refine ⟨_,rfl,fun _ f=>?_⟩;(iterate 3 refine L.s f fun _ f=>?_);have f:=f.as (i:=87) (v':=.bool false) rfl (by (simp [n,u,v,x,c6,o,c8,r,d1,d2,d4,z1,t]; done));(iterate 3 refine L.s f fun _ f=>?_);have f:=f.as (i:=90) (v':=.bool false) rfl (by (simp [n,u,v,x,c6,o,c8,r,d1,d2,d4,z1,t]; done));refine L.sk f f.nT fun _ f=>?_;refine L.sk f f.nT fun _ f=>?_;refine L.sk f f.nT fun _ f=>?_;(iterate 3 refine L.s f fun _ f=>?_);have f:=f.as (i:=96) (v':=.bool false) rfl (by rfl);(iterate 2 refine L.s f fun _ f=>?_);refine L.cl f (Ji f Tryz.call92) (F8 _ _ _ _) ?_ (hw:=f.y);rintro e aq ⟨rfl,rfl⟩;refine ⟨_,rfl,fun _ f=>?_⟩;(iterate 3 refine L.s f fun _ f=>?_);have f:=f.as (i:=102) (v':=.bool false) rfl (by (simp [n,u,v,x,c6,o,c8,r,d1,d2,d4,z1,t]; done));(iterate 3 refine L.s f fun _ f=>?_);refine f.split 105 rfl (fun h1 f=>?_) (fun h1 f=>?_)
  ·as_aux_lemma=>
   refine L.s f fun _ c=>?_;(iterate 4 refine L.s c fun _ c=>?_);have c:=c.as (i:=110) (v':=.bool false) rfl (by (simp_all; done));refine wn k1 ?_;refine C.cF c rfl ?_;exact wp_skip (jK J5 (by rw [ag]; exact ⟨j,g,c.sub (sx sn)⟩))
  refine L.sk f f.nT fun _ f=>?_;refine L.sk f f.nT fun _ f=>?_;refine L.sk f f.nT fun _ f=>?_;(iterate 2 refine L.s f fun _ f=>?_);have f:=f.as (i:=110) (v':=.bool false) rfl (by rfl);refine wn k1 ?_;refine C.cF f rfl ?_;exact wp_skip (jK J5 (by rw [ag]; exact ⟨j,g,f.sub (sx sn)⟩))
 as_aux_lemma=>
 intro _ w3 hj;rw [ag] at hj;clear ag J5;obtain ⟨j,g,f⟩:=hj
 try clear b
 obtain ⟨ak,ab⟩ : ∃ J : Act → World → Prop,J = fun a W=>Kept [] w W ∧ Blk W g0 39 (p.cells s) ∧ Fr 201 a [(1,.pointer (some ⟨g0,0,none⟩))]:=⟨_,rfl⟩;refine C.cut ak ?_ ?_
 ·as_aux_lemma=>
  refine pr f fun _ b=>?_;refine wp_block ?_;refine C.loop (fun gk a W=>∃ k : Nat,k + gk = p.subs.length ∧ Kept [] w W ∧ Blk W g0 39 (p.cells s) ∧ Fr 201 a [(1,.pointer (some ⟨g0,0,none⟩)),(3,.int .i64 k)]) (p.subs.length) ?_ ?_
  ·exact ⟨0,by omega,j,g,b.sub (sx (sx sn))⟩
  intro ca _ w4 hI bw bh;obtain ⟨k,hk,j,g,c⟩:=hI
  try clear b
  refine wp_seq_k fun _ _=>?_;refine pr c fun _ b=>?_;refine b.sD 115 rfl (fun h2 b=>?_) (fun h2 b=>?_)
  ·as_aux_lemma=>
   exfalso
   omega
  refine C.cF b rfl ?_;exact wp_exit (jK ak (by rw [ab]; exact ⟨j,g,b.sub (sx sn)⟩))
 as_aux_lemma=>
 intro _ w4 hj;rw [ab] at hj;clear ab ak;obtain ⟨j,g,b⟩:=hj
 try clear f
 obtain ⟨ao,ac⟩ : ∃ J : Act → World → Prop,J = fun a W=>Kept [] w W ∧ Blk W g0 39 (p.cells s) ∧ Fr 201 a [(1,.pointer (some ⟨g0,0,none⟩))]:=⟨_,rfl⟩;refine C.cut ao ?_ ?_
 ·as_aux_lemma=>
  refine pr b fun _ f=>?_;refine wp_block ?_;refine C.loop (fun gk a W=>∃ k : Nat,k + gk = p.codes.length ∧ Kept [] w W ∧ Blk W g0 39 (p.cells s) ∧ Fr 201 a [(1,.pointer (some ⟨g0,0,none⟩)),(4,.int .i64 k)]) (p.codes.length) ?_ ?_
  ·exact ⟨0,by omega,j,g,f.sub (sx (sx sn))⟩
  intro av _ w5 hI bx ah;obtain ⟨k,hk,j,g,c⟩:=hI
  try clear f
  refine wp_seq_k fun _ k1=>?_;refine pr c fun _ f=>?_;refine f.sD 154 rfl (fun h3 f=>?_) (fun h3 f=>?_)
  ·as_aux_lemma=>
   have bi:=hL.codes;obtain ⟨d,hd⟩:=Bn p.codes k (by omega);obtain ⟨bk,cq,hA⟩:=IP.codes.addr (by omega);have ch:=List.all_eq_true.1 e2 _ (List.mem_of_getElem? hd);refine C.cT f rfl ?_;refine wp_skip (k1 _ _ ?_);have c:=f.pk [1,4];refine wp_seq_k fun _ k1=>?_;refine wp_block ?_;refine C.sk fun _ k2=>?_;(iterate 4 refine L.s c fun _ c=>?_);refine L.lo c (Dp (IP.codes.kept j) hA hd) fun _ c=>?_;refine L.cl c (Ji c Tryz.call92) (F8 _ _ _ _) ?_;rintro e ar ⟨rfl,rfl⟩;refine ⟨_,rfl,fun _ c=>?_⟩;(iterate 2 refine L.s c fun _ c=>?_);refine c.sB 164 rfl (fun h4 c=>?_) (fun h4 c=>?_)
   ·as_aux_lemma=>
    refine L.s c fun _ l=>?_;(iterate 3 refine L.s l fun _ l=>?_);refine L.lo l (Dp (IP.codes.kept j) hA hd) fun _ l=>?_;(iterate 2 refine L.s l fun _ l=>?_);have l:=l.as (i:=171) (v':=.bool false) rfl (by (simp_all; done));refine wn k2 ?_;refine C.cF l rfl ?_;refine wp_skip (k1 _ _ ?_);refine C.region ?_;(iterate 3 refine L.s l fun _ l=>?_);refine wpList_nil (ah _ _ (av - 1) ?_ ?_)
    ·omega
    exact ⟨k + 1,by omega,j,g,l.sub (sx (sx sn))⟩
   refine L.sk c c.nT fun _ c=>?_;refine L.sk c c.nT fun _ c=>?_;refine L.sk c c.nT fun _ c=>?_;refine L.sk c c.nT fun _ c=>?_;refine L.sk c c.nT fun _ c=>?_;refine L.sk c c.nT fun _ c=>?_;refine L.s c fun _ c=>?_;have c:=c.as (i:=171) (v':=.bool false) rfl (by rfl);refine wn k2 ?_;refine C.cF c rfl ?_;refine wp_skip (k1 _ _ ?_);refine C.region ?_;(iterate 3 refine L.s c fun _ c=>?_);refine wpList_nil (ah _ _ (av - 1) ?_ ?_)
   ·omega
   exact ⟨k + 1,by omega,j,g,c.sub (sx (sx sn))⟩
  refine C.cF f rfl ?_;exact wp_exit (jK ao (by rw [ac]; exact ⟨j,g,f.sub (sx sn)⟩))
 as_aux_lemma=>
 intro _ w5 hj;rw [ac] at hj;clear ac ao;obtain ⟨j,g,f⟩:=hj
 try clear b
 obtain ⟨ae,a9⟩ : ∃ J : Act → World → Prop,J = fun a W=>Kept [] w W ∧ Blk W g0 39 (p.cells s) ∧ Fr 201 a [(1,.pointer (some ⟨g0,0,none⟩))]:=⟨_,rfl⟩;refine C.cut ae ?_ ?_
 ·as_aux_lemma=>
  refine C.sk fun _ k1=>?_;refine L.s f fun _ b=>?_;(iterate 3 refine L.s b fun _ b=>?_);have b:=b.as (i:=175) (v':=.bool false) rfl (by (rw [decide_eq_false]; omega));(iterate 5 refine L.s b fun _ b=>?_);have b:=b.as (i:=180) (v':=.bool false) rfl (by (rw [decide_eq_false]; omega));refine L.sk b b.nT fun _ b=>?_;refine L.sk b b.nT fun _ b=>?_;refine L.sk b b.nT fun _ b=>?_;refine L.sk b b.nT fun _ b=>?_;(iterate 2 refine L.s b fun _ b=>?_);have b:=b.as (i:=186) (v':=.bool false) rfl (by rfl);(iterate 4 refine L.s b fun _ b=>?_);refine b.sD 190 rfl (fun h5 b=>?_) (fun h5 b=>?_)
  ·as_aux_lemma=>
   refine L.s b fun _ c=>?_;(iterate 5 refine L.s c fun _ c=>?_);have c:=c.as (i:=196) (v':=.bool false) rfl (by (simp [b9 (by assumption)]; done));refine wn k1 ?_;refine C.cF c rfl ?_;exact wp_skip (jK ae (by rw [a9]; exact ⟨j,g,c.sub (sx sn)⟩))
  refine L.sk b b.nT fun _ b=>?_;refine L.sk b b.nT fun _ b=>?_;refine L.sk b b.nT fun _ b=>?_;refine L.sk b b.nT fun _ b=>?_;(iterate 2 refine L.s b fun _ b=>?_);have b:=b.as (i:=196) (v':=.bool false) rfl (by rfl);refine wn k1 ?_;refine C.cF b rfl ?_;exact wp_skip (jK ae (by rw [a9]; exact ⟨j,g,b.sub (sx sn)⟩))
 as_aux_lemma=>
 intro _ w6 hj;rw [a9] at hj;clear a9 ae;obtain ⟨j,g,b⟩:=hj
 try clear f
 refine C.sk fun _ k1=>?_;refine L.s b fun _ f=>?_;refine L.cl f (Dt f Tryz.call80) (Ux p s _ (IP.kept j) hL (fun _=>Hr.1 r) n1 z4) ?_;rintro e w7 ⟨q,A7,o,rfl,Q7⟩;have F7:=FB.lw Q7 j.size;clear Q7;refine ⟨_,rfl,fun _ f=>?_⟩;have aj:=q.size;replace j:=j.z q;replace g:=g.z q;clear q;refine re f k1 ?_;exact ⟨j,by rw [b8] at *; simp [l4]; omega⟩
end Go.Proofs.YtkdeedhjkjffpaaGreat
namespace Go.Hub
theorem Sh (n : Int) (a : 0 ≤ n) (b : n < 2 ^ 63) : IntKind.i64.wrap n = n:=by rw [IntKind.wrap_i64]; omega
theorem x4r (i : Nat) (hi : i ≤ 63) (a : Int) (c : 0 ≤ a) (b : a < 2 ^ 63) : bits .and .i64 a (2 ^ i - 1) = a % 2 ^ i:=bits_mask .i64 63 (by decide) Sh i hi a c b
end Go.Hub
namespace Go.Proofs.YtkdeedhjkjffpaaGreat
open Go.RowKit Go.Hub Go.Lib Go.Vl
theorem Tq : ∀ x : Fin 256,bits .and .u8 (x.val : Int) 8 = (x.val : Int) / 8 % 2 * 8 ∧ bits .and .u8 (x.val : Int) 1 = (x.val : Int) % 2 ∧ bits .and .u8 (x.val : Int) 3 = (x.val : Int) % 4 ∧ bits .and .u8 (x.val : Int) 15 = (x.val : Int) % 16:=by decide +kernel
theorem x4s : ∀ x : Fin 256,bits .and .i64 (x.val : Int) 2 = (x.val : Int) / 2 % 2 * 2 ∧ bits .and .i64 (x.val : Int) 4 = (x.val : Int) / 4 % 2 * 4 ∧ bits .and .i64 (x.val : Int) 8 = (x.val : Int) / 8 % 2 * 8 ∧ bits .and .i64 (x.val : Int) 32 = (x.val : Int) / 32 % 2 * 32 ∧ bits .and .i64 (x.val : Int) 64 = (x.val : Int) / 64 % 2 * 64 ∧ bits .and .i64 (x.val : Int) 128 = (x.val : Int) / 128 % 2 * 128 ∧ bits .and .i64 (x.val : Int) 3 = (x.val : Int) % 4:=by decide +kernel
section
variable {c : Int}
theorem y3f (a : 0 ≤ c) (b : c ≤ 255) : bits .and .u8 c 8 = c / 8 % 2 * 8:=by obtain ⟨n,rfl⟩:=Int.eq_ofNat_of_zero_le a; exact (Tq ⟨n,by omega⟩).1
theorem y3g (a : 0 ≤ c) (b : c ≤ 255) : bits .and .u8 c 1 = c % 2:=by obtain ⟨n,rfl⟩:=Int.eq_ofNat_of_zero_le a; exact (Tq ⟨n,by omega⟩).2.1
theorem y3h (a : 0 ≤ c) (b : c ≤ 255) : bits .and .u8 c 3 = c % 4:=by obtain ⟨n,rfl⟩:=Int.eq_ofNat_of_zero_le a; exact (Tq ⟨n,by omega⟩).2.2.1
theorem x9n (a : 0 ≤ c) (b : c ≤ 255) : bits .and .u8 c 15 = c % 16:=by obtain ⟨n,rfl⟩:=Int.eq_ofNat_of_zero_le a; exact (Tq ⟨n,by omega⟩).2.2.2
theorem y3i (a : 0 ≤ c) (b : c ≤ 255) : bits .and .i64 c 8 = c / 8 % 2 * 8:=by obtain ⟨n,rfl⟩:=Int.eq_ofNat_of_zero_le a; exact (x4s ⟨n,by omega⟩).2.2.1
theorem x4t (a : 0 ≤ c) (b : c ≤ 255) : bits .and .i64 c 3 = c % 4:=by obtain ⟨n,rfl⟩:=Int.eq_ofNat_of_zero_le a; exact (x4s ⟨n,by omega⟩).2.2.2.2.2.2
end
theorem y3j (x k : Int) (h : 0 < k) : (!decide (x / k % 2 * k = 0)) = Fs x k:=by
  unfold Fs
  rcases (by omega : x / k % 2 = 0 ∨ x / k % 2 = 1) with e | e <;> rw [e] <;> simp <;> omega
theorem y6l (c : Int) : (!decide (c % 2 = 0)) = Fs c 1:=by
  unfold Fs;rw [Int.ediv_one]
  rcases (by omega : c % 2 = 0 ∨ c % 2 = 1) with e | e <;> rw [e] <;> decide
theorem y3k : ∀ x : Fin 256,(x.val : Int) / 2 % 4 = (x.val : Int) % 16 / 2 % 4 ∧ (x.val : Int) / 8 % 2 = (x.val : Int) % 16 / 8 % 2:=by decide +kernel
theorem y3l (c : Int) (a : 0 ≤ c) (b : c ≤ 255) : c / 2 % 4 = c % 16 / 2 % 4 ∧ c / 8 % 2 = c % 16 / 8 % 2:=by obtain ⟨n,rfl⟩:=Int.eq_ofNat_of_zero_le a; exact y3k ⟨n,by omega⟩
theorem or8 (x y : Int) (b : 0 ≤ x) (c : x ≤ 65535) (a : 0 ≤ y) (d : y ≤ 255) : bits .or .i64 (x * 256) y = x * 256 + y:=bits_join .i64 63 (by decide) Sh 8 (x * 256) y (by omega) (by simp) (by omega) a (by simpa using (by omega : y < 256)) (by omega)
theorem y8u (x : Int) (a : 0 ≤ x) (b : x ≤ 65535) : IntKind.i64.wrap (x * 2 ^ (8 : Int).toNat) = x * 256:=IntWalk.i64_in _ (by simp; omega)
section
variable {E : List TypeId} {B : Nat} {w w' : World} {A : Option Addr} {n k c x g : Nat} {t : TypeId} {l : List UInt8} {cs : Array Value} {r : Rd}
theorem _root_.Go.Hub.Bs.head (h : Bs E B w A n l) (o : k ≤ n) : Bs E B w A k (l.take k):=
  ⟨by rw [List.length_take,h.1]; omega,fun m=>by
    obtain ⟨g,b,e,d,j,f⟩:=h.2 (by omega)
    refine ⟨g,b,e,d,j,fun i x a=>f i x ?_⟩
    rw [List.getElem?_take] at a
    split at a
    · exact a
    cases a⟩
theorem _root_.Go.Hub.Bs.cut (h : Bs E B w A n l) (p : k ≤ n) (o : n ≤ c) : Bs E B w (if c = k then A else A.map (·.add (k * 1))) (n - k) (l.drop k):=
  ⟨by rw [List.length_drop,h.1],fun m=>by
    obtain ⟨g,a,e,d,f,j⟩:=h.2 (by omega)
    rw [if_neg (by omega)]
    refine ⟨g,a + k,by rw [e,Nat.mul_one]; simp [Addr.add_lit],d,f,fun i x b=>?_⟩
    rw [List.getElem?_drop] at b
    have:=j (k + i) x b
    rw [Nat.add_assoc]
    exact this⟩
theorem _root_.Go.Hub.Bs.k0 (h : Bs E B w A n l) (a : Kept [] w w') : Bs E B w' A n l:=h.same (Same.of_kept a (by simp))
theorem _root_.Go.Hub.Bs.k1 (h : Bs E B w A n l) (f : Kept [x] w w') (b : Blk w x t cs) (j : t ∉ E) (d : B ≤ x) : Bs E B w' A n l:=h.same (Same.of_kept f (by intro y a i; simp at a; subst a; exact ⟨d,b.not_typ j⟩))
theorem y3m (h : Bs E B w A n l) {b a i : Nat} (f : A = some ⟨b,a,none⟩) (hi : i < n) : w.cell? ⟨b,a + (i : Int).toNat * 1,none⟩ = some (.int .u8 ((l.getD i 0).toNat : Nat)):=by
  obtain ⟨o,d,e,_,_,j⟩:=h.2 (by omega);rw [f] at e
  injection e with e
  injection e with e1 e2
  subst e1 e2;have m : i < l.length:=by rw [h.1]; exact hi
  rw [Int.toNat_natCast,Nat.mul_one];refine j i _ ?_;rw [List.getD_eq_getElem?_getD,List.getElem?_eq_getElem m,Option.getD_some]
def PaAt (w : World) (B g : Nat) (r : Rd) : Prop:=B ≤ g ∧ ∃ A c at_,∃ F : List UInt8,Blk w g 128 #[.slice A F.length c,.int .i64 ((at_ : Nat) : Int),.bool r.lk] ∧ Bs [5] B w A F.length F ∧ F.length ≤ c ∧ at_ ≤ F.length ∧ F.drop at_ = r.l ∧ F.length ≤ 100000000
theorem PaAt.k0 (h : PaAt w B g r) (b : Kept [] w w') : PaAt w' B g r:=by
  obtain ⟨d,A,c,a,F,f,i,j⟩:=h;exact ⟨d,A,c,a,F,f.kept b (by simp),i.k0 b,j⟩
theorem PaAt.k1 (h : PaAt w B g r) (d : Kept [x] w w') (q : g ≠ x) (o : B ≤ x) (b : Blk w x t cs) (p : t ∉ [5]) : PaAt w' B g r:=by
  obtain ⟨f,A,c,a,F,i,j,m⟩:=h;exact ⟨f,A,c,a,F,i.kept d (by simp; omega),j.k1 d b p o,m⟩
def x9o (B g n : Nat) (r : Rd) (w : World) (e : Ending) (w' : World) : Prop:=∃ (v : Nat) (r' : Rd),r.numR n = ((v : Int),r') ∧ v ≤ 65535 ∧ (n = 1 → v ≤ 255) ∧ e = .returned (.int .i64 (v : Int)) ∧ PaAt w' B g r' ∧ Kept [g] w w'
def x4u (At : World → Nat → Nat → Rd → Prop) (B g : Nat) (v : ByteArray × Rd) (r : Rd) (w : World) (e : Ending) (w' : World) : Prop:=∃ s r',v = (s,r') ∧ s.size ≤ 65535 ∧ e = .returned (.string s) ∧ At w' B g r' ∧ Kept [g] w w'
theorem I1 (r : Rd) (n : Nat) : (r.takeR n).1.length ≤ n:=by
  unfold Rd.takeR
  split
  · simp
  rw [List.length_take]; omega
theorem x1i (l : List UInt8) (x : UInt8) : Jq (l ++ [x]) = Jq l * 256 + x.toNat:=by simp [Jq,List.foldl_append]
theorem Yr : ∀ l : List UInt8, l.length ≤ 2 → 0 ≤ Jq l ∧ Jq l ≤ 65535 ∧ (l.length ≤ 1 → Jq l ≤ 255)
  | [],_=>by simp [Jq]
  | [x],_=>by have:=x.toNat_lt; simp [Jq]; omega
  | [x,y],_=>by have:=x.toNat_lt; have:=y.toNat_lt; simp [Jq]; omega
  | _ :: _ :: _ :: _,h=>by simp at h
theorem x1j (l : List UInt8) (k : Nat) (h : k < l.length) : Jq (l.take (k + 1)) = Jq (l.take k) * 256 + ((l.getD k 0).toNat : Nat):=by
  rw [List.take_add_one,List.getElem?_eq_getElem h,Option.toList_some,x1i,List.getD_eq_getElem?_getD,List.getElem?_eq_getElem h,Option.getD_some]
theorem x4v (r : Rd) (n : Nat) (a : n ≤ 2) : 0 ≤ (r.numR n).1 ∧ (r.numR n).1 ≤ 65535 ∧ (n = 1 → (r.numR n).1 ≤ 255):=by
  have h:=I1 r n;have:=Yr (r.takeR n).1 (by omega);exact ⟨this.1,this.2.1,fun e=>this.2.2 (by omega)⟩
theorem PaAt.bk (h : PaAt w B g r) : ∃ cs,Blk w g 128 cs:=by
  obtain ⟨d,A,c,a,F,b,f,i⟩:=h;exact ⟨_,b⟩
end
theorem x4w (c : Int) (w : World) (i : 0 ≤ c ∧ c ≤ 255) : Calls Tryz.prog 42 #[.int .u8 c] w (fun e w'=>w = w' ∧ e = .returned (.bool (H6 c))):=by
 refine Bw Tryz.func42 Tryz.ntmps42 fun _ f=>?_;refine pr f fun _ f=>?_;refine C.sk fun _ k=>?_;refine L.s f fun _ f=>?_;refine L.va f (E.shrN f rfl rfl (by decide) (by decide) (show _ / 2 ^ (4 : Int).toNat = _ / 16 from rfl)) fun _ f=>?_;refine L.va f (E.conv f U5 U3 rfl (IntWalk.i64_in _ (by omega))) fun _ f=>?_;refine L.s f fun _ f=>?_;refine L.va f (E.and f rfl rfl (x9n (by omega) (by omega))) fun _ f=>?_;refine L.va f (E.conv f U5 U3 rfl (IntWalk.i64_in _ (by omega))) fun _ f=>?_;refine pe f k fun _ f=>?_;refine wp_seq_k fun _ k=>?_;refine pr f fun _ f=>?_;refine wp_block ?_;refine wp_seq_k fun _ g=>?_;refine pr f fun _ f=>?_;refine C.sp f (fun m f=>?_) (fun m f=>?_)
 ·refine wp_skip (g _ _ ?_);have a:=f.pk [4,11,12];refine C.cT a rfl ?_;refine rt a ?_;exact ⟨rfl,by unfold H6; rw [if_pos (by omega)]⟩
 refine Ib f g fun _ f=>?_;refine C.sp f (fun n f=>?_) (fun n f=>?_)
 ·refine rt f ?_;exact ⟨rfl,by unfold H6; rw [if_pos (by omega)]⟩
 refine pr f fun _ f=>?_;refine C.sp f (fun o f=>?_) (fun o f=>?_)
 ·refine C.sk fun _ g=>?_;refine L.s f fun _ a=>?_;refine L.va a (E.shrN a rfl rfl (by decide) (by decide) (show _ / 2 ^ (1 : Int).toNat = _ / 2 from rfl)) fun _ a=>?_;refine L.va a (E.and a rfl rfl (x4t (by omega) (by omega))) fun _ a=>?_;(iterate 2 refine L.s a fun _ a=>?_);refine a.sN 21 rfl (fun p a=>?_) (fun p a=>?_)
  ·refine L.s a fun _ b=>?_;refine L.va b (E.and b rfl rfl (y3i (by omega) (by omega))) (hw:=b.y) fun _ b=>?_;(iterate 2 refine L.s b fun _ b=>?_);refine b.sD 25 rfl (fun q b=>?_) (fun q b=>?_)
   ·refine L.rn b fun _ h=>?_;have h:=h.sub (sv 2 (.bool true) sn);refine wn g ?_;refine Gc h ?_;refine ⟨rfl,?_⟩;unfold H6;rw [if_neg (by omega),if_pos (by omega)];obtain ⟨j,l⟩:=y3l c i.1 i.2;simp only [Fs,j,l]
    rcases (by omega : c % 16 / 8 % 2 = 0 ∨ c % 16 / 8 % 2 = 1) with d | d <;> (first | (exfalso; omega) | (simp [d, *]; done) | (simp [d, *]; omega))
   refine L.s b fun _ b=>?_;refine L.va b (E.shrN b rfl rfl (by decide) (by decide) (show _ / 2 ^ (1 : Int).toNat = _ / 2 from rfl)) (hw:=b.y) fun _ b=>?_;refine L.va b (E.and b rfl rfl (x4t (by omega) (by omega))) (hw:=b.y) fun _ b=>?_;refine re b g ?_;refine ⟨rfl,?_⟩;unfold H6;rw [if_neg (by omega),if_pos (by omega)];obtain ⟨j,l⟩:=y3l c i.1 i.2;simp only [Fs,j,l]
   rcases (by omega : c % 16 / 8 % 2 = 0 ∨ c % 16 / 8 % 2 = 1) with d | d <;> (first | (exfalso; omega) | (simp [d, *]; done) | (simp [d, *]; omega))
  refine L.rn a fun _ a=>?_;have a:=a.sub (sv 2 (.bool false) sn);refine wn g ?_;refine Gc a ?_;refine ⟨rfl,?_⟩;unfold H6;rw [if_neg (by omega),if_pos (by omega)];obtain ⟨j,l⟩:=y3l c i.1 i.2;simp only [Fs,j,l]
  rcases (by omega : c % 16 / 8 % 2 = 0 ∨ c % 16 / 8 % 2 = 1) with d | d <;> ((simp [d, *]; done))
 refine wp_seq_k fun _ g=>?_;refine pr f fun _ f=>?_;refine C.sp f (fun r f=>?_) (fun r f=>?_)
 ·refine wp_skip (g _ _ ?_);have a:=f.pk [4,32];refine C.cT a rfl ?_;refine rt a ?_;exact ⟨rfl,by unfold H6; rw [if_neg (by omega),if_neg (by omega),if_pos (by omega)]⟩
 refine pr f fun _ f=>?_;refine C.sp f (fun t f=>?_) (fun t f=>?_)
 ·refine wp_skip (g _ _ ?_);have a:=f.pk [4,32];refine C.cT a rfl ?_;refine rt a ?_;exact ⟨rfl,by unfold H6; rw [if_neg (by omega),if_neg (by omega),if_pos (by omega)]⟩
 refine Ib f g fun _ f=>?_;refine C.sp f (fun u f=>?_) (fun u f=>?_)
 ·refine rt f ?_;exact ⟨rfl,by unfold H6; rw [if_neg (by omega),if_neg (by omega),if_pos (by omega)]⟩
 refine wp_skip (k _ _ ?_);refine rt f ?_;exact ⟨rfl,by unfold H6; rw [if_neg (by omega),if_neg (by omega),if_neg (by omega)]⟩
theorem Gk (n : Nat) (B g : Nat) (r : Rd) (w : World) (RD : PaAt w B g r) (hn : n ≤ 100000000) : Calls Tryz.prog 77 #[.pointer (some ⟨g,0,none⟩),.int .i64 n] w (fun e w'=>Kept [g] w w' ∧ ∃ A c,e = .returned (.slice A (r.takeR n).1.length c) ∧ Bs [5] B w' A (r.takeR n).1.length (r.takeR n).1 ∧ PaAt w' B g (r.takeR n).2):=by
 obtain ⟨a1,A,c,at_,F,d,i,v,a3,q,a2⟩:=RD;have af : r.l.length = F.length - at_:=by rw [← q,List.length_drop]
 have o : Kept [g] w w:=Kept.refl [g] w;refine Bw Tryz.func77 Tryz.ntmps77 fun _ f=>?_;refine pr f fun _ f=>?_;refine wp_seq_k fun _ k1=>?_;refine wp_seq_k fun _ k2=>?_;have j:=dk w 1;refine R.bT (S:=fun W=>(Kept [g] w W) ∧ (Blk W g 128 #[.slice A F.length c,.int .i64 ((at_ : Nat) : Int),.bool r.lk]) ∧ (Bs [5] B W A F.length F)) (by kernel_rfl) (by kernel_rfl) ⟨o.z j,d.z j,i.k0 j⟩ fun t=>?_;obtain ⟨w1,x⟩ : ∃ W,W = w.drewN 1:=⟨_,rfl⟩;rw [← x] at j ⊢;clear x;have aa:=j.size;replace o:=o.z j;replace d:=d.z j;replace i:=i.k0 j;clear j;refine rs [0,1,2,3,4] f fun _ f=>?_;refine f.split 9 rfl (fun h0 f=>?_) (fun h0 f=>?_)
 ·refine R.runT [5,6,7,8,9,10,11,12,13,14,15,16,17] (tf 18 []) f t (fun _ _ _ _ h=>h) ⟨o,d,i⟩ (by kernel_rfl) fun _ a=>?_;have a:=a.sub (sv 22 (.bool true) (pkT a [0,1]));refine R.dn k2 ?_;refine C.cT a rfl ?_;refine C.sk fun _ k3=>?_;(iterate 3 refine L.s a fun _ a=>?_);refine L.store a Aa Z1 rfl rfl rfl d (by (simp [Value.cells]; done)) fun _ w2 a p b=>?_;have a0:=b.size;replace o:=o.trans b (B6 (by simp));replace i:=i.k1 b d (by decide) (by omega);replace d:=p;simp only [Value.cells,z1,z2,z3,Nat.reduceAdd,Nat.zero_add] at d;clear b;have a:=a.sub sn;refine wn k3 ?_;refine rt a ?_;have t : r.takeR n = ([],⟨r.l,true⟩):=by unfold Rd.takeR; rw [if_pos (by (left; assumption))]
  rw [t];exact ⟨o,none,0,rfl,Bs.nil _ _ _ _,a1,A,c,at_,F,d,i,v,a3,q,a2⟩
 have a4 : r.lk = false:=by simpa using h0
 refine rs [5,6,7,8,9,10,11,12,13,14,15,16,17] f fun _ f=>?_;refine R.dn k2 ?_;refine C.sp f (fun h1 f=>?_) (fun h1 f=>?_)
 ·refine C.sk fun _ k2=>?_;refine L.s f fun _ a=>?_;(iterate 2 refine L.s a fun _ a=>?_);refine L.store a Aa Z1 rfl rfl rfl d (by (simp [Value.cells]; done)) fun _ w2 a p b=>?_;have a0:=b.size;replace o:=o.trans b (B6 (by simp));replace i:=i.k1 b d (by decide) (by omega);replace d:=p;simp only [Value.cells,z1,z2,z3,Nat.reduceAdd,Nat.zero_add] at d;clear b;have a:=a.sub sn;refine wn k2 ?_;refine rt a ?_;have t : r.takeR n = ([],⟨r.l,true⟩):=by unfold Rd.takeR; rw [if_pos (by (right; omega))]
  rw [t];exact ⟨o,none,0,rfl,Bs.nil _ _ _ _,a1,A,c,at_,F,d,i,v,a3,q,a2⟩
 refine wp_skip (k1 _ _ ?_);refine C.sk fun _ k1=>?_;(iterate 5 refine L.s f fun _ f=>?_);refine L.va f (E.add (r:=((at_ + n : Nat) : Int)) f rfl rfl ((IntWalk.i64_in _ (by omega)).trans (by omega))) fun _ f=>?_;(iterate 2 refine L.s f fun _ f=>?_);refine L.store f Aa Z0 rfl rfl rfl d (by (simp [Value.cells]; done)) fun _ w2 f p b=>?_;have a0:=b.size;replace o:=o.trans b (B6 (by simp));replace i:=i.k1 b d (by decide) (by omega);replace d:=p;simp only [Value.cells,z1,z2,z3,Nat.reduceAdd,Nat.zero_add] at d;clear b;refine wn k1 ?_;refine wp_seq_k fun _ k1=>?_;have m:=dk w2 1;refine R.bT (S:=fun W=>(Kept [g] w W) ∧ (Bs [5] B W A F.length F) ∧ (Blk W g 128 #[.slice A F.length c,.int .i64 ((at_ + n : Nat) : Int),.bool r.lk])) (by kernel_rfl) (by kernel_rfl) ⟨o.z m,i.k0 m,d.z m⟩ fun t=>?_;obtain ⟨w3,y⟩ : ∃ W,W = w2.drewN 1:=⟨_,rfl⟩;rw [← y] at m ⊢;clear y;have ab:=m.size;replace o:=o.z m;replace i:=i.k0 m;replace d:=d.z m;clear m;refine rs [0,1,2,3,4,5,6,7,8] f fun _ f=>?_;refine R.u 9 f rfl t ⟨o,i,d⟩ (fun W hW=>(E.sub (r:=((at_ : Nat) : Int)) f rfl rfl ((IntWalk.i64_in _ (by omega)).trans (by omega)))) fun _ f=>?_;refine rs [10,11,12,13] f fun _ f=>?_;refine R.u 14 f rfl t ⟨o,i,d⟩ (fun W hW=>(E.slL f U33 Za rfl rfl rfl (by omega) (by omega) (by omega) )) fun _ f=>?_;refine rs [15] f fun _ f=>?_
 refine R.dn k1 ?_;refine Gc f ?_;have t : r.takeR n = (r.l.take n,⟨r.l.drop n,false⟩):=by unfold Rd.takeR; rw [if_neg (by simp [a4]; omega)]
 have hl : (r.l.take n).length = n:=by rw [List.length_take]; omega
 rw [t];simp only [Int.toNat_natCast] at f ⊢;refine ⟨o,_,_,by rw [hl]; congr 2; omega,?_,a1,A,c,at_ + n,F,by rw [← a4]; exact d,i,v,by omega,by rw [← q,List.drop_drop],a2⟩;rw [hl,← q];have hx:=(i.cut a3 v).head (k:=n) (by omega);rw [show at_ + n - at_ = n by omega] at *;exact hx
theorem Gt (n : Nat) (B g : Nat) (r : Rd) (w : World) (u : PaAt w B g r) (hn : n ≤ 2) : Calls Tryz.prog 76 #[.pointer (some ⟨g,0,none⟩),.int .i64 n] w (x9o B g n r w):=by
 have d : Kept [g] w w:=Kept.refl [g] w;refine Bw Tryz.func76 Tryz.ntmps76 fun _ f=>?_;refine pr f fun _ f=>?_;refine pr f fun _ f=>?_;refine C.sk fun _ p=>?_;(iterate 2 refine L.s f fun _ f=>?_);refine L.cl f (Bm f Tryz.call77) (Gk n B g _ _ u (by omega)) ?_;rintro e w1 ⟨q,A1,c1,rfl,x,j⟩;refine ⟨_,rfl,fun _ f=>?_⟩;have z:=q.size;replace d:=d.trans q (B6 (by simp));clear q;have hl:=I1 r n;clear u;refine pe f p fun _ f=>?_;refine wp_seq_k fun _ p=>?_;refine pr f fun _ f=>?_;refine wp_block ?_;refine C.loop (fun gk a W=>W = w1 ∧ ∃ k : Nat,k + gk = (r.takeR n).1.length ∧ Fr 26 a [(5,.int .i64 (Jq ((r.takeR n).1.take k))),(6,.slice A1 (r.takeR n).1.length c1),(7,.int .i64 k)]) ((r.takeR n).1.length) ?_ ?_
 ·exact ⟨rfl,0,by omega,f.sub (sx (sx (sx sn)))⟩
 intro l _ w2 hI a1 c;obtain ⟨hW,k,hk,b⟩:=hI;subst hW
 try clear f
 refine wp_seq_k fun _ t=>?_;refine pr b fun _ f=>?_;refine f.sD 14 rfl (fun h0 f=>?_) (fun h0 f=>?_)
 ·obtain ⟨b1,o1,m,-⟩:=x.2 (by omega);have a8 : ((r.takeR n).1.getD k 0).toNat < 256:=UInt8.toNat_lt _;have o:=Yr ((r.takeR n).1.take k) (by rw [List.length_take]; omega);refine C.cT f rfl ?_;refine wp_skip (t _ _ ?_);have b:=f.pk [5,6,7];refine wp_seq_k fun _ t=>?_;refine wp_block ?_;refine C.region ?_;refine L.s b fun _ b=>?_;refine L.va b (E.shlN b rfl rfl (by decide) (by decide) (y8u _ (by omega) (by omega))) fun _ b=>?_;(iterate 3 refine L.s b fun _ b=>?_);refine L.lo b (y3m x m (i:=k) (by omega)) fun _ b=>?_;refine L.va b (E.conv b U5 U3 rfl (IntWalk.i64_in _ (by omega))) fun _ b=>?_;refine L.va b (E.or b rfl rfl (or8 _ _ (by omega) (by omega) (by omega) (by omega))) fun _ b=>?_;refine pe b t fun _ b=>?_;refine C.region ?_;(iterate 3 refine L.s b fun _ b=>?_);refine wpList_nil (c _ _ (l - 1) ?_ ?_)
  ·omega
  exact ⟨rfl,k + 1,by omega,b.sub (Dx (by rw [x1j (r.takeR n).1 k (by omega)]; rfl) (sx (sx sn)))⟩
 refine C.cF f rfl ?_;refine wp_exit (p _ _ ?_);refine rt f ?_;have y:=x4v r n hn;obtain ⟨v,o⟩:=Int.eq_ofNat_of_zero_le y.1;exact ⟨v,_,Prod.ext o rfl,by omega,fun h=>by have:=y.2.2 h; omega,by rw [← o,List.take_of_length_le (by omega)]; rfl,j,d⟩
theorem x1k (B g : Nat) (r : Rd) (w : World) (l : PaAt w B g r) : Calls Tryz.prog 75 #[.pointer (some ⟨g,0,none⟩)] w (x4u PaAt B g r.textR r w):=by
 have a : Kept [g] w w:=Kept.refl [g] w;refine Bw Tryz.func75 Tryz.ntmps75 fun _ f=>?_;refine pr f fun _ f=>?_;refine C.sk fun _ k=>?_;(iterate 2 refine L.s f fun _ f=>?_);refine L.cl f (Bm f Tryz.call76) (Gt 2 B g _ _ l (by decide)) ?_;rintro e v ⟨d,h,n,p,-,rfl,b,q⟩;refine ⟨_,rfl,fun _ f=>?_⟩;have i:=q.size;replace a:=a.trans q (B6 (by simp));clear q;refine L.cl f (Bm f Tryz.call77) (Gk d B g h _ b (by omega)) ?_;rintro e x ⟨q,t,u,rfl,m,c⟩;refine ⟨_,rfl,fun _ f=>?_⟩;have j:=q.size;replace a:=a.trans q (B6 (by simp));clear q;refine L.va f (E.toStr f rfl U33 U5 U9 m.toSl) fun _ f=>?_;refine re f k ?_;have o:=I1 h d;exact ⟨_,_,by rw [Rd.textR,Rd.lumpR,n]; rfl,by rw [Sf]; omega,rfl,c,a⟩
end Go.Proofs.YtkdeedhjkjffpaaGreat
namespace Go.Proofs.YtkdeedhjkjffpaaGreat
open Go.RowKit Go.Hub Go.Lib Go.Vl
structure PkM (B : Nat) (w W : World) (p : Pk) (s : Ad) : Prop where
  pay : Bs [5] B W s.pa p.pay.length p.pay
  wp : Bs [5] B W s.wa p.wp.length p.wp
  pass : Bs [5] B W s.sa p.pass.length p.pass
  subs : Fresh w W 79 2 s.ua p.subs.length s.uc (subCells p.subs)
  codes : Fresh w W 3 1 s.ca p.codes.length s.cc (codeCells p.codes)
section
variable {B x : Nat} {w W W' : World} {p : Pk} {s : Ad} {t : TypeId} {cs : Array Value}
theorem PkM.of (g : B ≤ w.heap.size) (a : FB w W s.pa s.pc p.pay) (b : FB w W s.wa s.wc p.wp) (c : FB w W s.sa s.sc p.pass) (d : Fresh w W 79 2 s.ua p.subs.length s.uc (subCells p.subs)) (f : Fresh w W 3 1 s.ca p.codes.length s.cc (codeCells p.codes)) : PkM B w W p s:=
  ⟨Bs.of_fresh a,Bs.of_fresh b,Bs.of_fresh c,d,f⟩
theorem N8 {w : World} {e size n c : Nat} {A : Option Addr} {xs : List Value} (h : Fresh w W e size A n c xs) (f : Kept [x] W W') (b : Blk W x t cs) (g : t ≠ e) : Fresh w W' e size A n c xs:=Fresh.kept h f fun a d i=>by
  obtain rfl:=List.mem_singleton.1 i
  exact Bc (Fresh.own h) b g (by simpa using (Ag A n c a).2 d)
theorem PkM.k0 (h : PkM B w W p s) (a : Kept [] W W') : PkM B w W' p s:=⟨h.pay.k0 a,h.wp.k0 a,h.pass.k0 a,h.subs.k0 a,h.codes.k0 a⟩
theorem PkM.k1 (h : PkM B w W p s) (c : Kept [x] W W') (b : Blk W x t cs) (a : t ∉ [5,79,3]) (d : B ≤ x) : PkM B w W' p s:=by
  simp only [List.mem_cons,List.not_mem_nil,not_or,or_false] at a;exact ⟨h.pay.k1 c b (by simpa using a.1) d,h.wp.k1 c b (by simpa using a.1) d,h.pass.k1 c b (by simpa using a.1) d,N8 h.subs c b a.2.1,N8 h.codes c b a.2.2⟩
theorem PkM.toIn (h : PkM B w W p s) : p.In W s:=⟨h.pay.toSl,h.wp.toSl,h.pass.toSl,h.subs.sl,h.codes.sl⟩
end
end Go.Proofs.YtkdeedhjkjffpaaGreat
namespace Go.Proofs.YtkdeedhjkjffpaaGreat
open Go.RowKit Go.Hub Go.Lib Go.Vl
theorem _root_.Go.Hub.Blk.slNW {w : World} {g : Nat} {t : TypeId} {cs : Array Value} (h : Blk w g t cs) {n size : Nat} (a : cs.size = n * size) : Sl w (some ⟨g,0,none⟩) n size cs.toList:=
  ⟨by simp [a],fun _=>⟨g,0,rfl,h.lt,fun j u b=>by rw [Nat.zero_add]; exact h.cl b⟩⟩
section
variable {B : Nat} {w W W' : World} {p : Pk} {s : Ad} {e size n k c g c' : Nat} {A A' : Option Addr} {xs : List Value} {r : Rd}
theorem x4x {w : World} {x : Nat} (d : ∀ a,A = some a → B ≤ a.block) (f : x ∈ (Value.slice A n c).ownBlock.toList) : B ≤ x:=by
  have b:=(Ag A n c x).1 (by simpa using f)
  cases A with
  | none=>simp at b
  | some a=>simp at b; subst b; exact d a rfl
theorem Ts {l : List UInt8} {b : Option Addr} {m : Nat} {E : List TypeId} (h : Bs E B W b m l) (o : Kept (Value.slice A n c).ownBlock.toList W W') (q : Own W e size (.slice A n c) n xs) (j : e ∉ E) (i : ∀ a,A = some a → B ≤ a.block) : Bs E B W' b m l:=h.same (Same.of_kept o fun x d _=>by
  obtain ⟨_,t,f⟩:=q.blk x (by simpa using d)
  exact ⟨x4x (w:=W) i d,Hl f j⟩)
theorem PaAt.keptO (h : PaAt W B g r) (d : Kept (Value.slice A n c).ownBlock.toList W W') (f : Own W e size (.slice A n c) n xs) (t : 128 ≠ e) (u : e ∉ [5]) (v : ∀ a,A = some a → B ≤ a.block) : PaAt W' B g r:=by
  obtain ⟨l,i,q,x,j,b,m,o⟩:=h;exact ⟨l,i,q,x,j,b.kept d (Bc f b t),Ts m d f u v,o⟩
theorem x1l {i l j f : Nat} {d : Option Addr} {m : List Value} (h : Fresh w W i l d j f m) (v : Kept (Value.slice A n c).ownBlock.toList W W') (x : Own W e size (.slice A n c) n xs) (u : i ≠ e) : Fresh w W' i l d j f m:=Fresh.kept h v fun b t y=>by
  obtain ⟨_,z,q⟩:=x.blk b (by simpa using y)
  obtain ⟨_,o,a⟩:=(Fresh.own h).blk b ((Ag d j f b).2 t)
  rw [q] at a
  injection a with a
  injection a with _ h4 _
  exact u h4.symm
theorem PkM.pushc (h : PkM B w W p s) (f : B ≤ w.heap.size) (l : w.heap.size ≤ W.heap.size) {i : Int} (b : App W W' 3 1 s.ca p.codes.length s.cc (codeCells p.codes) [.int .i64 i] 1 A' c') :
    PkM B w W' { p with codes:=p.codes ++ [i] } { s with ca:=A',cc:=c' }:=by
  have d : ∀ a,s.ca = some a → B ≤ a.block:=fun a j=>Nat.le_trans f (h.codes.from a j);refine ⟨Ts h.pay b.kept h.codes.own (by decide) d,Ts h.wp b.kept h.codes.own (by decide) d,Ts h.pass b.kept h.codes.own (by decide) d,x1l h.subs b.kept h.codes.own (by decide),?_⟩;have:=b.next h.codes l
  have e : codeCells (p.codes ++ [i]) = codeCells p.codes ++ [.int .i64 i]:=by simp [codeCells]
  show Fresh w W' 3 1 A' (p.codes ++ [i]).length c' (codeCells (p.codes ++ [i]));rw [e,List.length_append];exact this
end
end Go.Proofs.YtkdeedhjkjffpaaGreat
namespace Go.Proofs.YtkdeedhjkjffpaaGreat
open Go.RowKit Go.Hub Go.Lib Go.Vl
theorem Zh : (Tryz.prog.info? 3).map (fun i=>(i.zero,i.size)) = some (some (.int .i64 0),1):=by kernel_rfl
theorem Zi (a : Int) : Instr.fill (fun i=>some (i * 1,1)) ((Array.range (1 * 1)).map fun j=>(Value.cells (.int .i64 0))[j % (Value.cells (.int .i64 0)).size]!) [(0,.int .i64 a)] = some #[.int .i64 a]:=by kernel_rfl
def mu (r : Rd) : Nat:=if r.lk = true then 0 else r.l.length
def H8 (m : Nat) (p : Pk) (r : Rd) : Pk × Rd:=if p.kind = 8 ∨ p.kind = 10 then Jj m p r else (p,r)
def Jk (m : Nat) (p : Pk) (r : Rd) : Pk × Rd:=if p.kind = 9 then Ge m p r else (p,r)
def y6m (p : Pk) (s : Ad) (x : Nat) : Prop:=(0 < p.pay.length → ∀ a,s.pa = some a → a.block ≠ x) ∧ (0 < p.wp.length → ∀ a,s.wa = some a → a.block ≠ x) ∧ (0 < p.pass.length → ∀ a,s.sa = some a → a.block ≠ x) ∧ (∀ a,s.ua = some a → a.block ≠ x) ∧ (∀ a,s.ca = some a → a.block ≠ x)
section
variable {B x : Nat} {w W W' : World} {p : Pk} {s : Ad}
theorem W9 {E : List TypeId} {A : Option Addr} {n : Nat} {l : List UInt8} (h : Bs E B W A n l) (i : W.heap.size ≤ x) (d : 0 < n) : ∀ a,A = some a → a.block ≠ x:=fun a c=>by
  obtain ⟨b,f,e,g,_⟩:=h.2 d
  rw [c] at e
  injection e with e
  subst e
  show b ≠ x
  omega
theorem Ys {e size n c : Nat} {A : Option Addr} {xs : List Value} (h : Own W e size (.slice A n c) n xs) (d : W.heap.size ≤ x) : ∀ a,A = some a → a.block ≠ x:=fun a b=>by
  have:=(h.blk a.block ((Ag A n c a.block).2 (by rw [b]; rfl))).1
  omega
theorem PkM.far (h : PkM B w W p s) (a : W.heap.size ≤ x) : y6m p s x:=⟨W9 h.pay a,W9 h.wp a,W9 h.pass a,Ys h.subs.own a,Ys h.codes.own a⟩
end
section
variable {r : Rd} {p : Pk} {m : Nat} {c : Int}
theorem Yt (r : Rd) : mu r ≤ r.l.length:=by unfold mu; split <;> omega
theorem x4y (h : r.l ≠ []) (a : r.lk = false) : 0 < mu r:=by
  unfold mu;rw [if_neg (by rw [a]; decide)];exact List.length_pos_iff.2 h
theorem Uz (r : Rd) (n : Nat) : mu (r.takeR n).2 ≤ mu r:=by
  unfold Rd.takeR
  split
  · simp [mu]
  rename_i h
  have a : ¬ r.lk = true:=fun e=>h (.inl e);unfold mu;rw [if_neg a]
  simp
theorem x4z {n : Nat} (h : r.l ≠ []) (b : r.lk = false) (d : 0 < n) : mu (r.takeR n).2 < mu r:=by
  have a:=x4y h b;unfold Rd.takeR
  split
  · simpa [mu] using a
  unfold mu at a;rw [b] at a;show (if (false : Bool) = true then 0 else (r.l.drop n).length) < (if r.lk = true then 0 else r.l.length);rw [b];simp only [Bool.false_eq_true,if_false,List.length_drop] at a ⊢;omega
theorem x9p (r : Rd) (n : Nat) : mu (r.numR n).2 ≤ mu r:=Uz r n
theorem Nh {n : Nat} (h : r.l ≠ []) (a : r.lk = false) (b : 0 < n) : mu (r.numR n).2 < mu r:=x4z h a b
theorem x5a (h : r.l ≠ []) (a : r.lk = false) : mu r.textR.2 < mu r:=Nat.lt_of_le_of_lt (Uz _ _) (Nh h a (by decide))
theorem PaAt.len {w : World} {B g : Nat} (h : PaAt w B g r) : r.l.length ≤ 100000000:=by
  obtain ⟨_,_,_,a,F,_,_,_,_,b,d⟩:=h;rw [← b,List.length_drop];omega
theorem x1m (m : Nat) (p : Pk) (h : r.lk = true ∨ r.l = []) : Jj m p r = (p,r):=by
  cases m
  · rfl
  unfold Jj; rw [if_pos h]
theorem Xa (m : Nat) (p : Pk) (h : r.lk = true ∨ r.l = []) : Ge m p r = (p,r):=by
  cases m
  · rfl
  unfold Ge; rw [if_pos h]
theorem x1n (h : ¬ (p.kind = 8 ∨ p.kind = 10) ∨ r.lk = true ∨ r.l = []) : H8 m p r = (p,r):=by
  unfold H8
  split
  · rename_i hk
    rcases h with h | h
    · exact absurd hk h
    exact x1m m p h
  rfl
theorem Mk (h : ¬ p.kind = 9 ∨ r.lk = true ∨ r.l = []) : Jk m p r = (p,r):=by
  unfold Jk
  split
  · rename_i hk
    rcases h with h | h
    · exact absurd hk h
    exact Xa m p h
  rfl
theorem Tt (a : r.l ≠ []) (b : r.lk = false) (h : p.kind = 9) : Jk (m + 1) p r = Jk m { p with codes:=p.codes ++ [(r.numR 1).1] } (r.numR 1).2:=by
  unfold Jk;rw [if_pos h,if_pos h]
  conv=>lhs; unfold Ge
  rw [if_neg (by simp [b,a])]
theorem Jv : ∀ (m : Nat) (p : Pk) (r : Rd), (Jj m p r).1.kind = p.kind
  | 0,_,_=>rfl
  | m + 1,p,r=>by
    unfold Jj
    split
    · rfl
    split
    · exact Jv m _ _
    exact Jv m _ _
theorem U0 (b : ¬ c / 16 = 1) (d : ¬ c / 16 = 2) (f : ¬ c / 16 = 3) (g : ¬ Da (c / 16) 12 14 = true) :
    Bt c r = Jk (H8 (r.numR 2).2.l.length { kind:=c / 16,id:=(r.numR 2).1 } (r.numR 2).2).2.l.length (H8 (r.numR 2).2.l.length { kind:=c / 16,id:=(r.numR 2).1 } (r.numR 2).2).1 (H8 (r.numR 2).2.l.length { kind:=c / 16,id:=(r.numR 2).1 } (r.numR 2).2).2:=by
  unfold Bt;rw [if_neg b,if_neg d,if_neg f,if_neg g];simp only;unfold H8 Jk
  by_cases a : c / 16 = 8 ∨ c / 16 = 10
  · simp only [if_pos a, Jv]
    rw [if_neg (by omega)]
  simp only [if_neg a]
end
theorem Xb (c : Int) (hc : 0 ≤ c ∧ c ≤ 255) (dc : c / 16 ≠ 1) (ff : c / 16 ≠ 8 ∧ c / 16 ≠ 10) (B g : Nat) (r : Rd) (w : World) (v : PaAt w B g r) (bf : B ≤ w.heap.size) : Calls Tryz.prog 44 #[.int .u8 c,.pointer (some ⟨g,0,none⟩)] w (fun e w'=>∃ p r' s,Bt c r = (p,r') ∧ e = .returned (.agg (p.cells s)) ∧ Kept [g] w w' ∧ PaAt w' B g r' ∧ PkM B w w' p s):=by
 have y : Kept [g] w w:=Kept.refl [g] w;have fc:=v.1;have fe : g < w.heap.size:=by obtain ⟨_,b⟩:=v.bk; exact b.lt
 refine Bw Tryz.func44 Tryz.ntmps44 fun _ f=>?_;refine C.sk fun _ k=>?_;refine L.alloc f Aa (by decide) (z:=(.agg #[(.int .i64 0),(.bool false),(.bool false),(.int .i64 0),(.int .i64 0),(.string ⟨#[]⟩),(.slice none 0 0),(.int .i64 0),(.string ⟨#[]⟩),(.bool false),(.int .i64 0),(.bool false),(.string ⟨#[]⟩),(.slice none 0 0),(.int .i64 0),(.bool false),(.bool false),(.bool false),(.string ⟨#[]⟩),(.slice none 0 0),(.bool false),(.int .i64 0),(.slice none 0 0),(.slice none 0 0)])) (fun _=>by kernel_rfl) rfl fun _ w1 g0 N f=>?_;obtain ⟨j,q,df,ew,ez⟩:=N.al;have ep:=y.lo df;replace y:=y.z q;replace v:=v.k0 q;clear N q;refine wn k (C.sk fun _ k=>?_);refine L.s f fun _ f=>?_;refine L.va f (E.shrN f rfl rfl (by decide) (by decide) (show _ / 2 ^ (4 : Int).toNat = _ / 16 from rfl)) fun _ f=>?_;refine L.va f (E.conv f U5 U3 rfl (IntWalk.i64_in _ (by omega))) fun _ f=>?_;refine L.bd f (Zf _) fun _ f=>?_;refine L.alloc f Aa (by decide) (z:=(.agg #[(.int .i64 0),(.bool false),(.bool false),(.int .i64 0),(.int .i64 0),(.string ⟨#[]⟩),(.slice none 0 0),(.int .i64 0),(.string ⟨#[]⟩),(.bool false),(.int .i64 0),(.bool false),(.string ⟨#[]⟩),(.slice none 0 0),(.int .i64 0),(.bool false),(.bool false),(.bool false),(.string ⟨#[]⟩),(.slice none 0 0),(.bool false),(.int .i64 0),(.slice none 0 0),(.slice none 0 0)])) (fun _=>by kernel_rfl) rfl fun _ w2 g1 N f=>?_
 obtain ⟨bu,q,dg,ex,f0⟩:=N.al;have er:=y.lo dg;have dj : g0 ≠ g1:=by have:=j.lt; omega
 replace y:=y.z q;replace v:=v.k0 q;replace j:=j.z q;clear N q;refine L.storeR f Aa Z8 rfl rfl rfl bu rfl rfl fun _ w3 f dw c3=>?_;have f1:=c3.size;replace y:=y.trans c3 (B6 (by omega));replace v:=v.k1 c3 (by omega) (by omega) bu (by decide);replace j:=j.kn c3;replace bu:=dw;clear c3;refine wn k ?_;obtain ⟨af,ac⟩ : ∃ J : Act → World → Prop,J = fun a W=>∃ p9 r9 s9,Bt c r = (p9,r9) ∧ Kept [g] w W ∧ Blk W g0 39 Dg ∧ PaAt W B g r9 ∧ Blk W g1 39 (p9.cells s9) ∧ PkM B w W p9 s9 ∧ Fr 206 a [(4,.pointer (some ⟨g0,0,none⟩)),(5,.pointer (some ⟨g1,0,none⟩))]:=⟨_,rfl⟩;refine C.cut af ?_ ?_
 ·skip;refine wp_seq_k fun _ k=>?_;have o:=bu;clear bu;have t : PkM B w w3 { kind:=c / 16 } s0:=PkM.of bf (FB.nil _ _) (FB.nil _ _) (FB.nil _ _) (Fresh.nil _ _ _ _) (Fresh.nil _ _ _ _);have ee : g1 ≠ g0:=by omega
  have eu : g ≠ g0:=by omega
  have ev : g ≠ g1:=by omega
  refine Ib f k fun _ x=>?_;refine wp_block ?_;refine pr x fun _ x=>?_;refine x.sD 88 rfl (fun h0 d=>?_) (fun h0 d=>?_)
  ·clear x
   exfalso
   omega
  refine C.cF d rfl ?_;refine pr d fun _ x=>?_;refine C.sp x (fun h1 x=>?_) (fun h1 x=>?_)
  ·refine C.sk fun _ k=>?_;refine L.s x fun _ d=>?_;obtain ⟨av,a5⟩:=v.bk;refine L.cl d (Bm d Tryz.call76) (Gt 1 B g _ _ v (by decide)) ?_;rintro e w4 ⟨v4,r4,e4,eg,eh,rfl,a1,q⟩;clear v;refine ⟨_,rfl,fun _ d=>?_⟩;have cq:=q.size;replace y:=y.trans q (B6 (by simp));replace j:=j.kept q (by simp; omega);replace o:=o.kept q (by simp; omega);replace t:=(by exact t.k1 q a5 (by decide) (by omega));clear q;have v:=a1;clear a1 a5;(iterate 2 refine L.s d fun _ d=>?_);refine L.store d Aa Z1 rfl rfl rfl o (by (simp [Value.cells]; done)) fun _ w5 d b9 a8=>?_;have c5:=a8.size;replace y:=y.trans a8 (B6 (by omega));replace j:=j.kn a8;replace t:=(by exact t.k1 a8 o (by decide) (by omega));replace v:=v.k1 a8 (by omega) (by omega) o (by decide);replace o:=b9;simp only [Value.cells,z1,z2,z3,Nat.reduceAdd,Nat.zero_add] at o;clear a8;refine wn k ?_;refine C.region ?_;refine L.s d fun _ d=>?_;obtain ⟨av,a5⟩:=v.bk;refine L.cl d (Bm d Tryz.call76) (Gt 1 B g _ _ v (by decide)) ?_;rintro e w6 ⟨v6,r6,e6,fj,fl,rfl,a1,q⟩;clear v;refine ⟨_,rfl,fun _ d=>?_⟩;have cr:=q.size;replace y:=y.trans q (B6 (by simp));replace j:=j.kept q (by simp; omega);replace t:=(by exact t.k1 q a5 (by decide) (by omega));replace o:=o.kept q (by simp; omega);clear q;have v:=a1;clear a1 a5;refine L.s d fun _ d=>?_
   refine L.store d Aa Z0 rfl rfl rfl o (by (simp [Value.cells]; done)) fun _ w7 d dz br=>?_;have cs:=br.size;replace y:=y.trans br (B6 (by omega));replace j:=j.kn br;replace t:=(by exact t.k1 br o (by decide) (by omega));replace v:=v.k1 br (by omega) (by omega) o (by decide);replace o:=dz;simp only [Value.cells,z1,z2,z3,Nat.reduceAdd,Nat.zero_add] at o;clear br;exact wpList_nil (jK af (by rw [ac]; exact ⟨{ kind:=c / 16,present:=decide ((v4 : Int) = 1),code:=(v6 : Int) },r6,s0,by unfold Bt; rw [if_neg (by omega),if_pos (by omega)]; simp only [e4,e6],y,j,v,o,⟨t.pay,t.wp,t.pass,t.subs,t.codes⟩,d.sub (sx (sx sn))⟩))
  refine pr x fun _ x=>?_;refine C.sp x (fun h2 x=>?_) (fun h2 x=>?_)
  ·refine C.sk fun _ k=>?_;refine L.s x fun _ d=>?_;refine L.va d (E.and d rfl rfl (y3f (by omega) (by omega))) fun _ d=>?_;(iterate 2 refine L.s d fun _ d=>?_);refine L.va d (E.shrN d rfl rfl (by decide) (by decide) (show _ / 2 ^ (1 : Int).toNat = _ / 2 from rfl)) fun _ d=>?_;refine L.va d (E.and d rfl rfl (y3h (by omega) (by omega))) fun _ d=>?_;refine L.va d (E.conv d U5 U3 rfl (IntWalk.i64_in _ (by omega))) fun _ d=>?_;refine L.s d fun _ d=>?_;refine L.va d (E.and d rfl rfl (y3g (by omega) (by omega))) fun _ d=>?_;(iterate 2 refine L.s d fun _ d=>?_);refine L.store d Aa Z1 rfl rfl rfl o (by (simp [Value.cells]; done)) fun _ w4 d dx bp=>?_;have cq:=bp.size;replace y:=y.trans bp (B6 (by omega));replace v:=v.k1 bp (by omega) (by omega) o (by decide);replace j:=j.kn bp;replace t:=(by exact t.k1 bp o (by decide) (by omega));replace o:=dx;simp only [Value.cells,z1,z2,z3,Nat.reduceAdd,Nat.zero_add] at o;clear bp;refine L.s d fun _ d=>?_;refine L.store d Aa Z0 rfl rfl rfl o (by (simp [Value.cells]; done)) fun _ w5 d b9 a8=>?_;have c5:=a8.size;replace y:=y.trans a8 (B6 (by omega));replace v:=v.k1 a8 (by omega) (by omega) o (by decide);replace j:=j.kn a8;replace t:=(by exact t.k1 a8 o (by decide) (by omega));replace o:=b9
   simp only [Value.cells,z1,z2,z3,Nat.reduceAdd,Nat.zero_add] at o;clear a8;refine L.s d fun _ d=>?_;refine L.store d Aa Z1 rfl rfl rfl o (by (simp [Value.cells]; done)) fun _ w6 d dy bq=>?_;have cr:=bq.size;replace y:=y.trans bq (B6 (by omega));replace v:=v.k1 bq (by omega) (by omega) o (by decide);replace j:=j.kn bq;replace t:=(by exact t.k1 bq o (by decide) (by omega));replace o:=dy;simp only [Value.cells,z1,z2,z3,Nat.reduceAdd,Nat.zero_add] at o;clear bq;refine wn k ?_;refine wp_seq_k fun _ k=>?_;rw [y3j c 8 (by omega),y6l c] at o;refine C.region ?_;refine L.s d fun _ d=>?_;obtain ⟨av,a5⟩:=v.bk;refine L.cl d (Dt d Tryz.call75) (x1k B g _ _ v) ?_;rintro e w7 ⟨v7,r7,e7,fk,rfl,a1,q⟩;clear v;refine ⟨_,rfl,fun _ d=>?_⟩;have cs:=q.size;replace y:=y.trans q (B6 (by simp));replace j:=j.kept q (by simp; omega);replace t:=(by exact t.k1 q a5 (by decide) (by omega));replace o:=o.kept q (by simp; omega);clear q;have v:=a1;clear a1 a5;refine L.s d fun _ d=>?_;refine L.store d Aa Z2 rfl rfl rfl o (by (simp [Value.cells]; done)) fun _ w8 d e0 bs=>?_;have dm:=bs.size;replace y:=y.trans bs (B6 (by omega));replace j:=j.kn bs;replace t:=(by exact t.k1 bs o (by decide) (by omega));replace v:=v.k1 bs (by omega) (by omega) o (by decide);replace o:=e0
   simp only [Value.cells,z1,z2,z3,Nat.reduceAdd,Nat.zero_add] at o;clear bs;refine wn k ?_;refine wp_seq_k fun _ k=>?_;refine pr d fun _ d=>?_;refine C.sp d (fun h3 d=>?_) (fun h3 d=>?_)
   ·refine C.region ?_;refine L.s d fun _ a0=>?_;obtain ⟨av,a5⟩:=v.bk;refine L.cl a0 (Bm a0 Tryz.call76) (Gt 2 B g _ _ v (by decide)) ?_;rintro e w9 ⟨v9,r9,e9,dd,de,rfl,a1,q⟩;clear v;refine ⟨_,rfl,fun _ a0=>?_⟩;have c6:=q.size;replace y:=y.trans q (B6 (by simp));replace j:=j.kept q (by simp; omega);replace t:=(by exact t.k1 q a5 (by decide) (by omega));replace o:=o.kept q (by simp; omega);clear q;have v:=a1;clear a1 a5;refine L.s a0 fun _ a0=>?_;refine L.store a0 Aa Z0 rfl rfl rfl o (by (simp [Value.cells]; done)) fun _ bj a0 d8 ax=>?_;have ar:=ax.size;replace y:=y.trans ax (B6 (by omega));replace j:=j.kn ax;replace t:=(by exact t.k1 ax o (by decide) (by omega));replace v:=v.k1 ax (by omega) (by omega) o (by decide);replace o:=d8;simp only [Value.cells,z1,z2,z3,Nat.reduceAdd,Nat.zero_add] at o;clear ax;refine wn k ?_;obtain ⟨bz,Ap,cp,at_,F,BG,SG,cy,cz,bc,d0⟩:=id v;have c1 : r9.l.length = F.length - at_:=by rw [← bc,List.length_drop]
    have a7:=dk bj 1;refine R.bT (S:=fun _=>True) (by kernel_rfl) (by kernel_rfl) trivial fun ht=>?_;obtain ⟨c7,c2⟩ : ∃ W,W = bj.drewN 1:=⟨_,rfl⟩;rw [← c2] at a7 ⊢;clear c2;have au:=a7.size;replace y:=y.z a7;replace j:=j.z a7;replace t:=t.k0 a7;replace v:=v.k0 a7;replace o:=o.z a7;replace BG:=BG.z a7;clear a7;refine rs [0,1,2,3,6,7,8] a0 fun _ a0=>?_;refine R.two 4 9 (by kernel_rfl) ?_ ?_
    ·skip;refine O.val a0 rfl rfl (by decide) Aa (by exact E.ld a0 U33 (BG)) trivial fun _ a2=>?_;refine rs [5] a2 fun _ a2=>?_;refine R.on 9 ?_;refine O.val a2 rfl rfl (by decide) Aa (by exact E.ld a2 U3 (BG)) trivial fun _ a2=>?_;refine R.on 10 ?_;refine O.val a2 rfl rfl (by decide) Aa (E.sub (r:=((r9.l.length : Nat) : Int)) a2 rfl rfl ((IntWalk.i64_in _ (by omega)).trans (by omega))) trivial fun _ a2=>?_;refine R.on 11 ?_;obtain ⟨av,a5⟩:=v.bk;refine O.call a2 rfl rfl (by decide) Aa (Bm a2 Tryz.call77) (Gk _ B g _ _ v (by omega)) ?_;rintro e cd ⟨q,cv,cx,rfl,bb,a1⟩;clear v;refine ⟨_,rfl,trivial,fun _ a2=>?_⟩;have az:=q.size;replace y:=y.trans q (B6 (by simp));replace j:=j.kept q (by simp; omega);replace t:=(by exact t.k1 q a5 (by decide) (by omega));replace o:=o.kept q (by simp; omega);clear q;have v:=a1;clear a1 a5;refine rs [12] a2 fun _ a2=>?_;refine R.on 13 ?_;refine OT.store a2 rfl Aa Z3 rfl rfl rfl o (by (simp [Value.cells]; done)) fun _ ek a2 bw ab=>?_;have d5:=ab.size;replace y:=y.trans ab (B6 (by omega));replace j:=j.kn ab;replace t:=(by exact t.k1 ab o (by decide) (by omega));replace v:=v.k1 ab (by omega) (by omega) o (by decide);replace bb:=bb.k1 ab o (by decide) (by omega);replace o:=bw;simp only [Value.cells,z1,z2,z3,Nat.reduceAdd,Nat.zero_add] at o;clear ab
     exact R.done (by kernel_rfl) (jK af (by rw [ac]; exact ⟨{ kind:=c / 16,dup:=Fs c 8,qos:=c / 2 % 4,retain:=Fs c 1,topic:=v7,id:=(v9 : Int),pay:=(r9.takeR r9.l.length).1 },(r9.takeR r9.l.length).2,{ s0 with pa:=cv,pc:=cx },by unfold Bt; rw [if_neg (by omega),if_neg (by omega),if_pos (by omega)]; simp only [e7]; rw [if_pos (by omega)]; simp only [e9],y,j,v,o,⟨bb,t.wp,t.pass,t.subs,t.codes⟩,a2.sub (sx (sx sn))⟩))
    skip;refine O.val a0 rfl rfl (by decide) Aa (by exact E.ld a0 U3 (BG)) trivial fun _ a0=>?_;refine R.on 4 ?_;refine O.val a0 rfl rfl (by decide) Aa (by exact E.ld a0 U33 (BG)) trivial fun _ a0=>?_;refine rs [5] a0 fun _ a0=>?_;refine R.on 10 ?_;refine O.val a0 rfl rfl (by decide) Aa (E.sub (r:=((r9.l.length : Nat) : Int)) a0 rfl rfl ((IntWalk.i64_in _ (by omega)).trans (by omega))) trivial fun _ a0=>?_;refine R.on 11 ?_;obtain ⟨av,a5⟩:=v.bk;refine O.call a0 rfl rfl (by decide) Aa (Bm a0 Tryz.call77) (Gk _ B g _ _ v (by omega)) ?_;rintro e cd ⟨q,cv,cx,rfl,bb,a1⟩;clear v;refine ⟨_,rfl,trivial,fun _ a0=>?_⟩;have az:=q.size;replace y:=y.trans q (B6 (by simp));replace j:=j.kept q (by simp; omega);replace t:=(by exact t.k1 q a5 (by decide) (by omega));replace o:=o.kept q (by simp; omega);clear q;have v:=a1;clear a1 a5;refine rs [12] a0 fun _ a0=>?_;refine R.on 13 ?_;refine OT.store a0 rfl Aa Z3 rfl rfl rfl o (by (simp [Value.cells]; done)) fun _ ek a0 bw ab=>?_;have d5:=ab.size;replace y:=y.trans ab (B6 (by omega));replace j:=j.kn ab;replace t:=(by exact t.k1 ab o (by decide) (by omega));replace v:=v.k1 ab (by omega) (by omega) o (by decide);replace bb:=bb.k1 ab o (by decide) (by omega);replace o:=bw;simp only [Value.cells,z1,z2,z3,Nat.reduceAdd,Nat.zero_add] at o;clear ab
    exact R.done (by kernel_rfl) (jK af (by rw [ac]; exact ⟨{ kind:=c / 16,dup:=Fs c 8,qos:=c / 2 % 4,retain:=Fs c 1,topic:=v7,id:=(v9 : Int),pay:=(r9.takeR r9.l.length).1 },(r9.takeR r9.l.length).2,{ s0 with pa:=cv,pc:=cx },by unfold Bt; rw [if_neg (by omega),if_neg (by omega),if_pos (by omega)]; simp only [e7]; rw [if_pos (by omega)]; simp only [e9],y,j,v,o,⟨bb,t.wp,t.pass,t.subs,t.codes⟩,a0.sub (sx (sx sn))⟩))
   refine wp_skip (k _ _ ?_);obtain ⟨bz,Ap,cp,at_,F,BG,SG,cy,cz,bc,d0⟩:=id v;have c1 : r7.l.length = F.length - at_:=by rw [← bc,List.length_drop]
   have a7:=dk w8 1;refine R.bT (S:=fun _=>True) (by kernel_rfl) (by kernel_rfl) trivial fun ht=>?_;obtain ⟨w9,cn⟩ : ∃ W,W = w8.drewN 1:=⟨_,rfl⟩;rw [← cn] at a7 ⊢;clear cn;have c6:=a7.size;replace y:=y.z a7;replace j:=j.z a7;replace t:=t.k0 a7;replace v:=v.k0 a7;replace o:=o.z a7;replace BG:=BG.z a7;clear a7;refine rs [0,1,2,3,6,7,8] d fun _ d=>?_;refine R.two 4 9 (by kernel_rfl) ?_ ?_
   ·skip;refine O.val d rfl rfl (by decide) Aa (by exact E.ld d U33 (BG)) trivial fun _ a0=>?_;refine rs [5] a0 fun _ a0=>?_;refine R.on 9 ?_;refine O.val a0 rfl rfl (by decide) Aa (by exact E.ld a0 U3 (BG)) trivial fun _ a0=>?_;refine R.on 10 ?_;refine O.val a0 rfl rfl (by decide) Aa (E.sub (r:=((r7.l.length : Nat) : Int)) a0 rfl rfl ((IntWalk.i64_in _ (by omega)).trans (by omega))) trivial fun _ a0=>?_;refine R.on 11 ?_;obtain ⟨av,a5⟩:=v.bk;refine O.call a0 rfl rfl (by decide) Aa (Bm a0 Tryz.call77) (Gk _ B g _ _ v (by omega)) ?_;rintro e bj ⟨q,cu,cw,rfl,ba,a1⟩;clear v;refine ⟨_,rfl,trivial,fun _ a0=>?_⟩;have ar:=q.size;replace y:=y.trans q (B6 (by simp));replace j:=j.kept q (by simp; omega);replace t:=(by exact t.k1 q a5 (by decide) (by omega));replace o:=o.kept q (by simp; omega);clear q;have v:=a1;clear a1 a5;refine rs [12] a0 fun _ a0=>?_;refine R.on 13 ?_;refine OT.store a0 rfl Aa Z3 rfl rfl rfl o (by (simp [Value.cells]; done)) fun _ c7 a0 bv aa=>?_;have au:=aa.size;replace y:=y.trans aa (B6 (by omega));replace j:=j.kn aa;replace t:=(by exact t.k1 aa o (by decide) (by omega));replace v:=v.k1 aa (by omega) (by omega) o (by decide);replace ba:=ba.k1 aa o (by decide) (by omega);replace o:=bv;simp only [Value.cells,z1,z2,z3,Nat.reduceAdd,Nat.zero_add] at o;clear aa
    exact R.done (by kernel_rfl) (jK af (by rw [ac]; exact ⟨{ kind:=c / 16,dup:=Fs c 8,qos:=c / 2 % 4,retain:=Fs c 1,topic:=v7,id:=0,pay:=(r7.takeR r7.l.length).1 },(r7.takeR r7.l.length).2,{ s0 with pa:=cu,pc:=cw },by unfold Bt; rw [if_neg (by omega),if_neg (by omega),if_pos (by omega)]; simp only [e7]; rw [if_neg (by omega)],y,j,v,o,⟨ba,t.wp,t.pass,t.subs,t.codes⟩,a0.sub (sx (sx sn))⟩))
   skip;refine O.val d rfl rfl (by decide) Aa (by exact E.ld d U3 (BG)) trivial fun _ d=>?_;refine R.on 4 ?_;refine O.val d rfl rfl (by decide) Aa (by exact E.ld d U33 (BG)) trivial fun _ d=>?_;refine rs [5] d fun _ d=>?_;refine R.on 10 ?_;refine O.val d rfl rfl (by decide) Aa (E.sub (r:=((r7.l.length : Nat) : Int)) d rfl rfl ((IntWalk.i64_in _ (by omega)).trans (by omega))) trivial fun _ d=>?_;refine R.on 11 ?_;obtain ⟨av,a5⟩:=v.bk;refine O.call d rfl rfl (by decide) Aa (Bm d Tryz.call77) (Gk _ B g _ _ v (by omega)) ?_;rintro e bj ⟨q,cu,cw,rfl,ba,a1⟩;clear v;refine ⟨_,rfl,trivial,fun _ d=>?_⟩;have ar:=q.size;replace y:=y.trans q (B6 (by simp));replace j:=j.kept q (by simp; omega);replace t:=(by exact t.k1 q a5 (by decide) (by omega));replace o:=o.kept q (by simp; omega);clear q;have v:=a1;clear a1 a5;refine rs [12] d fun _ d=>?_;refine R.on 13 ?_;refine OT.store d rfl Aa Z3 rfl rfl rfl o (by (simp [Value.cells]; done)) fun _ c7 d bv aa=>?_;have au:=aa.size;replace y:=y.trans aa (B6 (by omega));replace j:=j.kn aa;replace t:=(by exact t.k1 aa o (by decide) (by omega));replace v:=v.k1 aa (by omega) (by omega) o (by decide);replace ba:=ba.k1 aa o (by decide) (by omega);replace o:=bv;simp only [Value.cells,z1,z2,z3,Nat.reduceAdd,Nat.zero_add] at o;clear aa
   exact R.done (by kernel_rfl) (jK af (by rw [ac]; exact ⟨{ kind:=c / 16,dup:=Fs c 8,qos:=c / 2 % 4,retain:=Fs c 1,topic:=v7,id:=0,pay:=(r7.takeR r7.l.length).1 },(r7.takeR r7.l.length).2,{ s0 with pa:=cu,pc:=cw },by unfold Bt; rw [if_neg (by omega),if_neg (by omega),if_pos (by omega)]; simp only [e7]; rw [if_neg (by omega)],y,j,v,o,⟨ba,t.wp,t.pass,t.subs,t.codes⟩,d.sub (sx (sx sn))⟩))
  refine wp_seq_k fun _ k=>?_;refine pr x fun _ x=>?_;refine C.sp x (fun h4 x=>?_) (fun h4 x=>?_)
  ·refine wp_skip (k _ _ ?_);have d:=x.pk [1,4,5,201];refine C.cT d rfl ?_;exact wp_skip (jK af (by rw [ac]; exact ⟨{ kind:=c / 16 },r,s0,by unfold Bt; rw [if_neg (by omega),if_neg (by omega),if_neg (by omega),if_pos (by rw [Hr]; omega)],y,j,v,o,t,d.sub (sx (sx sn))⟩))
  refine pr x fun _ x=>?_;refine C.sp x (fun h5 x=>?_) (fun h5 x=>?_)
  ·refine wp_skip (k _ _ ?_);have d:=x.pk [1,4,5,201];refine C.cT d rfl ?_;exact wp_skip (jK af (by rw [ac]; exact ⟨{ kind:=c / 16 },r,s0,by unfold Bt; rw [if_neg (by omega),if_neg (by omega),if_neg (by omega),if_pos (by rw [Hr]; omega)],y,j,v,o,t,d.sub (sx (sx sn))⟩))
  refine Ib x k fun _ x=>?_;refine C.sp x (fun h6 x=>?_) (fun h6 x=>?_)
  ·exact wp_skip (jK af (by rw [ac]; exact ⟨{ kind:=c / 16 },r,s0,by unfold Bt; rw [if_neg (by omega),if_neg (by omega),if_neg (by omega),if_pos (by rw [Hr]; omega)],y,j,v,o,t,x.sub (sx (sx sn))⟩))
  obtain ⟨J4,d1⟩ : ∃ J : Act → World → Prop,J = fun a W=>∃ p1 r1,Bt c r = Jk (H8 r1.l.length p1 r1).2.l.length (H8 r1.l.length p1 r1).1 (H8 r1.l.length p1 r1).2 ∧ p1.kind = c / 16 ∧ p1.subs = [] ∧ p1.codes = [] ∧ Kept [g] w W ∧ Blk W g0 39 Dg ∧ PaAt W B g r1 ∧ Blk W g1 39 (p1.cells s0) ∧ PkM B w W p1 s0 ∧ Fr 206 a [(1,.pointer (some ⟨g,0,none⟩)),(4,.pointer (some ⟨g0,0,none⟩)),(5,.pointer (some ⟨g1,0,none⟩))]:=⟨_,rfl⟩;refine C.cut J4 ?_ ?_
  ·skip;refine C.region ?_;refine L.s x fun _ d=>?_;obtain ⟨av,a5⟩:=v.bk;refine L.cl d (Bm d Tryz.call76) (Gt 2 B g _ _ v (by decide)) ?_;rintro e w4 ⟨v4,r4,e4,eg,eh,rfl,a1,q⟩;clear v;refine ⟨_,rfl,fun _ d=>?_⟩;have cq:=q.size;replace y:=y.trans q (B6 (by simp));replace j:=j.kept q (by simp; omega);replace o:=o.kept q (by simp; omega);replace t:=(by exact t.k1 q a5 (by decide) (by omega));clear q;have v:=a1;clear a1 a5;refine L.s d fun _ d=>?_;refine L.store d Aa Z0 rfl rfl rfl o (by (simp [Value.cells]; done)) fun _ w5 d b9 a8=>?_;have c5:=a8.size;replace y:=y.trans a8 (B6 (by omega));replace j:=j.kn a8;replace t:=(by exact t.k1 a8 o (by decide) (by omega));replace v:=v.k1 a8 (by omega) (by omega) o (by decide);replace o:=b9;simp only [Value.cells,z1,z2,z3,Nat.reduceAdd,Nat.zero_add] at o;clear a8;exact wpList_nil (jK J4 (by rw [d1]; exact ⟨{ kind:=c / 16,id:=(v4 : Int) },r4,by rw [U0 (by omega) (by omega) (by omega) (by unfold Da; simp; omega)]; simp only [e4],rfl,rfl,rfl,y,j,v,o,⟨t.pay,t.wp,t.pass,t.subs,t.codes⟩,d.sub (sx (sx (sx sn)))⟩))
  intro _ w4 hj;rw [d1] at hj;clear d1 J4;obtain ⟨p1,r1,d3,dc,ef,ec,y,j,v,o,t,d⟩:=hj
  try clear x
  have fi:=v.len;have db : p1.subs.length + p1.codes.length + mu r1 ≤ 100000000:=by have:=Yt r1; rw [ef,ec]; simp only [List.length_nil]; omega
  obtain ⟨J9,d2⟩ : ∃ J : Act → World → Prop,J = fun a W=>∃ pp rr ss,H8 r1.l.length p1 r1 = (pp,rr) ∧ pp.kind = c / 16 ∧ pp.subs.length + pp.codes.length + mu rr ≤ 100000000 ∧ Kept [g] w W ∧ Blk W g0 39 Dg ∧ PaAt W B g rr ∧ Blk W g1 39 (pp.cells ss) ∧ PkM B w W pp ss ∧ Fr 206 a [(1,.pointer (some ⟨g,0,none⟩)),(4,.pointer (some ⟨g0,0,none⟩)),(5,.pointer (some ⟨g1,0,none⟩))]:=⟨_,rfl⟩;refine C.cut J9 ?_ ?_
  ·skip;refine wp_block ?_;refine C.loop (fun gk a W=>∃ pp rr ss m,gk = mu rr ∧ mu rr ≤ m ∧ H8 m pp rr = H8 r1.l.length p1 r1 ∧ pp.kind = c / 16 ∧ pp.subs.length + pp.codes.length + mu rr ≤ 100000000 ∧ Kept [g] w W ∧ Blk W g0 39 Dg ∧ PaAt W B g rr ∧ Blk W g1 39 (pp.cells ss) ∧ PkM B w W pp ss ∧ Fr 206 a [(1,.pointer (some ⟨g,0,none⟩)),(4,.pointer (some ⟨g0,0,none⟩)),(5,.pointer (some ⟨g1,0,none⟩))]) (mu r1) ?_ ?_
   ·exact ⟨p1,r1,s0,r1.l.length,rfl,Yt r1,rfl,dc,db,y,j,v,o,t,d.sub (sx (sx (sx sn)))⟩
   intro es _ w5 hI en ea;obtain ⟨pp,rr,ss,m,rfl,hm,ed,bh,cb,y,j,v,o,t,x⟩:=hI
   try clear d
   obtain ⟨bz,Ap,cp,at_,F,BG,SG,cy,cz,bc,d0⟩:=id v;have c1 : rr.l.length = F.length - at_:=by rw [← bc,List.length_drop]
   replace o : Blk w5 g1 39 #[.int .i64 pp.kind,.bool pp.dup,.bool pp.retain,.int .i64 pp.qos,.int .i64 pp.id,.string pp.topic,.slice ss.pa pp.pay.length ss.pc,.int .i64 pp.level,.string pp.client,.bool pp.clean,.int .i64 pp.keep,.bool pp.hasWill,.string pp.wt,.slice ss.wa pp.wp.length ss.wc,.int .i64 pp.wq,.bool pp.wr,.bool pp.hasUser,.bool pp.hasPass,.string pp.user,.slice ss.sa pp.pass.length ss.sc,.bool pp.present,.int .i64 pp.code,.slice ss.ua pp.subs.length ss.uc,.slice ss.ca pp.codes.length ss.cc]:=o;refine wp_seq_k fun _ _=>?_;refine wp_seq_k fun _ k=>?_;have ak:=dk w5 1;refine R.bT (S:=fun W=>(Kept [g] w W) ∧ (Blk W g1 39 #[.int .i64 pp.kind,.bool pp.dup,.bool pp.retain,.int .i64 pp.qos,.int .i64 pp.id,.string pp.topic,.slice ss.pa pp.pay.length ss.pc,.int .i64 pp.level,.string pp.client,.bool pp.clean,.int .i64 pp.keep,.bool pp.hasWill,.string pp.wt,.slice ss.wa pp.wp.length ss.wc,.int .i64 pp.wq,.bool pp.wr,.bool pp.hasUser,.bool pp.hasPass,.string pp.user,.slice ss.sa pp.pass.length ss.sc,.bool pp.present,.int .i64 pp.code,.slice ss.ua pp.subs.length ss.uc,.slice ss.ca pp.codes.length ss.cc]) ∧ (Blk W g 128 #[.slice Ap F.length cp,.int .i64 ((at_ : Nat) : Int),.bool rr.lk])) (by kernel_rfl) (by kernel_rfl) ⟨y.z ak,o.z ak,BG.z ak⟩ fun ht=>?_;obtain ⟨w6,cj⟩ : ∃ W,W = w5.drewN 1:=⟨_,rfl⟩;rw [← cj] at ak ⊢;clear cj;have cr:=ak.size;replace y:=y.z ak
   replace j:=j.z ak;replace v:=v.k0 ak;replace o:=o.z ak;replace t:=t.k0 ak;replace BG:=BG.z ak;clear ak;refine rs [0,1,2,3] x fun _ x=>?_;have x:=x.as (i:=20) (v':=.bool false) rfl (by rw [decide_eq_false]; omega);refine rs [4,5,6,7,8] x fun _ x=>?_;have x:=x.as (i:=25) (v':=.bool false) rfl (by rw [decide_eq_false]; omega);refine R.runT [9,10,11,12,13,14,15,16,17,18,19,20,21,22,23,24,25,26] (tf 27 []) x ht (fun _ _ _ _ h=>h) ⟨y,o,BG⟩ (by kernel_rfl) fun _ x=>?_;have x:=x.sub (sv 43 (.bool false) (pkT x [1,4,5]));refine R.dn k ?_;refine C.cF x rfl ?_;exact wp_exit (jK J9 (by rw [d2]; exact ⟨pp,rr,ss,by rw [← ed]; exact x1n (by (left; omega)),bh,cb,y,j,v,o,t,x.sub (sx (sx (sx sn)))⟩))
  intro _ w5 hj;rw [d2] at hj;clear d2 J9;obtain ⟨pp,rr,ss,hS,bh,cb,y,j,v,o,t,x⟩:=hj
  try clear d
  refine wp_block ?_;refine C.loop (fun gk a W=>∃ qq rq sq mq,gk = mu rq ∧ mu rq ≤ mq ∧ Jk mq qq rq = Jk rr.l.length pp rr ∧ qq.kind = c / 16 ∧ qq.subs.length + qq.codes.length + mu rq ≤ 100000000 ∧ Kept [g] w W ∧ Blk W g0 39 Dg ∧ PaAt W B g rq ∧ Blk W g1 39 (qq.cells sq) ∧ PkM B w W qq sq ∧ Fr 206 a [(1,.pointer (some ⟨g,0,none⟩)),(4,.pointer (some ⟨g0,0,none⟩)),(5,.pointer (some ⟨g1,0,none⟩))]) (mu rr) ?_ ?_
  ·exact ⟨pp,rr,ss,rr.l.length,rfl,Yt rr,rfl,bh,cb,y,j,v,o,t,x.sub (sx (sx (sx sn)))⟩
  intro et _ w6 hI eo bg;obtain ⟨qq,rq,sq,mq,rfl,hm,bm,bh,cb,y,j,v,o,t,d⟩:=hI
  try clear x
  obtain ⟨bz,Ap,cp,at_,F,BG,SG,cy,cz,bc,d0⟩:=id v;have c1 : rq.l.length = F.length - at_:=by rw [← bc,List.length_drop]
  replace o : Blk w6 g1 39 #[.int .i64 qq.kind,.bool qq.dup,.bool qq.retain,.int .i64 qq.qos,.int .i64 qq.id,.string qq.topic,.slice sq.pa qq.pay.length sq.pc,.int .i64 qq.level,.string qq.client,.bool qq.clean,.int .i64 qq.keep,.bool qq.hasWill,.string qq.wt,.slice sq.wa qq.wp.length sq.wc,.int .i64 qq.wq,.bool qq.wr,.bool qq.hasUser,.bool qq.hasPass,.string qq.user,.slice sq.sa qq.pass.length sq.sc,.bool qq.present,.int .i64 qq.code,.slice sq.ua qq.subs.length sq.uc,.slice sq.ca qq.codes.length sq.cc]:=o;refine wp_seq_k fun _ k=>?_;refine wp_seq_k fun _ k1=>?_;have ao:=dk w6 1;refine R.bT (S:=fun W=>(Kept [g] w W) ∧ (Blk W g1 39 #[.int .i64 qq.kind,.bool qq.dup,.bool qq.retain,.int .i64 qq.qos,.int .i64 qq.id,.string qq.topic,.slice sq.pa qq.pay.length sq.pc,.int .i64 qq.level,.string qq.client,.bool qq.clean,.int .i64 qq.keep,.bool qq.hasWill,.string qq.wt,.slice sq.wa qq.wp.length sq.wc,.int .i64 qq.wq,.bool qq.wr,.bool qq.hasUser,.bool qq.hasPass,.string qq.user,.slice sq.sa qq.pass.length sq.sc,.bool qq.present,.int .i64 qq.code,.slice sq.ua qq.subs.length sq.uc,.slice sq.ca qq.codes.length sq.cc]) ∧ (Blk W g 128 #[.slice Ap F.length cp,.int .i64 ((at_ : Nat) : Int),.bool rq.lk])) (by kernel_rfl) (by kernel_rfl) ⟨y.z ao,o.z ao,BG.z ao⟩ fun ht=>?_;obtain ⟨w7,ck⟩ : ∃ W,W = w6.drewN 1:=⟨_,rfl⟩;rw [← ck] at ao ⊢;clear ck;have cs:=ao.size;replace y:=y.z ao
  replace j:=j.z ao;replace v:=v.k0 ao;replace o:=o.z ao;replace t:=t.k0 ao;replace BG:=BG.z ao;clear ao;refine rs [0,1,2,3] d fun _ x=>?_;refine x.sD 62 rfl (fun h7 x=>?_) (fun h7 x=>?_)
  ·refine rs [4,5,6,7,8,9,10] x fun _ d=>?_;refine d.sB 69 rfl (fun h8 d=>?_) (fun h8 d=>?_)
   ·refine rs [11,12,13,14,15,16,17,18,19,20,21] d fun _ a0=>?_;refine R.dn k1 ?_;refine a0.sD 80 rfl (fun h9 a0=>?_) (fun h9 a0=>?_)
    ·have bo : rq.lk = false:=by assumption
     have bn : rq.l ≠ []:=fun h0=>by rw [h0] at c1; simp at c1; omega
     have fh:=x4y bn bo;obtain ⟨m',rfl⟩ : ∃ m',mq = m' + 1:=⟨mq - 1,by omega⟩;refine C.cT a0 rfl ?_;refine wp_skip (k _ _ ?_);have a2:=a0.pk [1,4,5];refine wp_block ?_;have ah:=dk w7 1;refine R.bT (S:=fun _=>True) (by kernel_rfl) (by kernel_rfl) trivial fun ht=>?_;obtain ⟨w8,cm⟩ : ∃ W,W = w7.drewN 1:=⟨_,rfl⟩;rw [← cm] at ah ⊢;clear cm;have dm:=ah.size;replace y:=y.z ah;replace j:=j.z ah;replace v:=v.k0 ah;replace o:=o.z ah;replace t:=t.k0 ah;clear ah;refine rs [0,2] a2 fun _ a2=>?_;refine R.two 1 3 (by kernel_rfl) ?_ ?_
     ·skip;refine O.val a2 rfl rfl (by decide) Aa (by exact E.ld a2 U37 (o)) trivial fun _ a9=>?_;refine R.on 3 ?_;obtain ⟨av,a5⟩:=v.bk;refine O.call a9 rfl rfl (by decide) Aa (Bm a9 Tryz.call76) (Gt 1 B g _ _ v (by decide)) ?_;rintro e w9 ⟨v9,r9,e9,dd,de,rfl,a1,q⟩;clear v;refine ⟨_,rfl,trivial,fun _ a9=>?_⟩;have c6:=q.size;replace y:=y.trans q (B6 (by simp));replace j:=j.kept q (by simp; omega);replace o:=o.kept q (by simp; omega);replace t:=(by exact t.k1 q a5 (by decide) (by omega));clear q;have v:=a1;clear a1 a5;have hx : mu r9 < mu rq:=by have h:=Nh bn bo (n:=1) (by decide); rw [e9] at h; exact h
      refine R.on 4 ?_;refine O.buildSlice a9 rfl Aa (by decide) (pL a9 rfl) U37 Zh rfl rfl (Zi _) (fun _ _=>trivial) fun _ bj g9 N c0 a9=>?_;clear c0;obtain ⟨b2,q,ai,co,ar⟩:=N.al;have cf:=y.lo ai;have b6 : g0 ≠ g9:=by have:=j.lt; omega
      have b7 : g1 ≠ g9:=by have:=o.lt; omega
      have ce:=t.far ai;replace y:=y.z q;replace j:=j.z q;replace o:=o.z q;replace t:=t.k0 q;replace v:=v.k0 q;clear N q;refine R.on 5 ?_;refine O.append a9 rfl Aa (by decide) U37 Zc rfl rfl rfl rfl t.codes.own (b2.slNW (size:=1) rfl) (by intro u hu; simp at hu; subst hu; rfl) (by unfold maxLen; omega) (by omega) fun _ c7 bt bx AP=>?_;have au:=AP.kept.size;have b3:=AP.grow t.codes y;have a1:=v.keptO AP.kept t.codes.own (by decide) (by decide) (fun a ha=>Nat.le_trans bf (t.codes.from a ha));have b1:=o.kept AP.kept (Bc t.codes.own o (by decide));have ag:=j.kept AP.kept (Bc t.codes.own j (by decide));have b5:=t.pushc bf y.size AP;refine ⟨trivial,fun a9=>?_⟩;clear b2 y v o t j;have y:=b3;have v:=a1;have o:=b1;have t:=b5;have j:=ag;clear b3 a1 b1 b5 ag AP;refine rs [6] a9 fun _ a9=>?_;refine R.on 7 ?_;refine OT.store a9 rfl Aa Z7 rfl rfl rfl o (by (simp [Value.cells]; done)) fun _ cd a9 b4 a6=>?_;have az:=a6.size;replace y:=y.trans a6 (B6 (by omega));replace j:=j.kn a6;replace t:=(by exact t.k1 a6 o (by decide) (by omega));replace v:=v.k1 a6 (by omega) (by omega) o (by decide);replace o:=b4;simp only [Value.cells,z1,z2,z3,Nat.reduceAdd,Nat.zero_add] at o;clear a6;refine R.done (by kernel_rfl) (bg _ _ (mu r9) ?_ ?_)
      ·omega
      exact ⟨{ qq with codes:=qq.codes ++ [(v9 : Int)] },r9,{ sq with ca:=bt,cc:=bx },m',rfl,by omega,by rw [← bm,Tt bn bo (by omega)]; simp only [e9],bh,by show qq.subs.length + (qq.codes ++ [(v9 : Int)]).length + _ ≤ _; rw [List.length_append,List.length_singleton]; omega,y,j,v,by rw [Pk.cells,List.length_append]; exact o,t,a9.sub (sx (sx (sx sn)))⟩
     skip;obtain ⟨av,a5⟩:=v.bk;refine O.call a2 rfl rfl (by decide) Aa (Bm a2 Tryz.call76) (Gt 1 B g _ _ v (by decide)) ?_;rintro e w9 ⟨v9,r9,e9,dd,de,rfl,a1,q⟩;clear v;refine ⟨_,rfl,trivial,fun _ a2=>?_⟩;have c6:=q.size;replace y:=y.trans q (B6 (by simp));replace j:=j.kept q (by simp; omega);replace o:=o.kept q (by simp; omega);replace t:=(by exact t.k1 q a5 (by decide) (by omega));clear q;have v:=a1;clear a1 a5;have hx : mu r9 < mu rq:=by have h:=Nh bn bo (n:=1) (by decide); rw [e9] at h; exact h
     refine R.two 1 4 (by kernel_rfl) ?_ ?_
     ·skip;refine O.val a2 rfl rfl (by decide) Aa (by exact E.ld a2 U37 (o)) trivial fun _ a9=>?_;refine R.on 4 ?_;refine O.buildSlice a9 rfl Aa (by decide) (pL a9 rfl) U37 Zh rfl rfl (Zi _) (fun _ _=>trivial) fun _ bj g9 N c0 a9=>?_;clear c0;obtain ⟨b2,q,ai,co,ar⟩:=N.al;have cf:=y.lo ai;have b6 : g0 ≠ g9:=by have:=j.lt; omega
      have b7 : g1 ≠ g9:=by have:=o.lt; omega
      have ce:=t.far ai;replace y:=y.z q;replace j:=j.z q;replace o:=o.z q;replace t:=t.k0 q;replace v:=v.k0 q;clear N q;refine R.on 5 ?_;refine O.append a9 rfl Aa (by decide) U37 Zc rfl rfl rfl rfl t.codes.own (b2.slNW (size:=1) rfl) (by intro u hu; simp at hu; subst hu; rfl) (by unfold maxLen; omega) (by omega) fun _ c7 bt bx AP=>?_;have au:=AP.kept.size;have b3:=AP.grow t.codes y;have a1:=v.keptO AP.kept t.codes.own (by decide) (by decide) (fun a ha=>Nat.le_trans bf (t.codes.from a ha));have b1:=o.kept AP.kept (Bc t.codes.own o (by decide));have ag:=j.kept AP.kept (Bc t.codes.own j (by decide));have b5:=t.pushc bf y.size AP;refine ⟨trivial,fun a9=>?_⟩;clear b2 y v o t j;have y:=b3;have v:=a1;have o:=b1;have t:=b5;have j:=ag;clear b3 a1 b1 b5 ag AP;refine rs [6] a9 fun _ a9=>?_;refine R.on 7 ?_;refine OT.store a9 rfl Aa Z7 rfl rfl rfl o (by (simp [Value.cells]; done)) fun _ cd a9 b4 a6=>?_;have az:=a6.size;replace y:=y.trans a6 (B6 (by omega));replace j:=j.kn a6;replace t:=(by exact t.k1 a6 o (by decide) (by omega));replace v:=v.k1 a6 (by omega) (by omega) o (by decide);replace o:=b4;simp only [Value.cells,z1,z2,z3,Nat.reduceAdd,Nat.zero_add] at o;clear a6;refine R.done (by kernel_rfl) (bg _ _ (mu r9) ?_ ?_)
      ·omega
      exact ⟨{ qq with codes:=qq.codes ++ [(v9 : Int)] },r9,{ sq with ca:=bt,cc:=bx },m',rfl,by omega,by rw [← bm,Tt bn bo (by omega)]; simp only [e9],bh,by show qq.subs.length + (qq.codes ++ [(v9 : Int)]).length + _ ≤ _; rw [List.length_append,List.length_singleton]; omega,y,j,v,by rw [Pk.cells,List.length_append]; exact o,t,a9.sub (sx (sx (sx sn)))⟩
     skip;refine O.buildSlice a2 rfl Aa (by decide) (pL a2 rfl) U37 Zh rfl rfl (Zi _) (fun _ _=>trivial) fun _ bj g9 N c0 a2=>?_;clear c0;obtain ⟨b2,q,ai,co,ar⟩:=N.al;have cf:=y.lo ai;have b6 : g0 ≠ g9:=by have:=j.lt; omega
     have b7 : g1 ≠ g9:=by have:=o.lt; omega
     have ce:=t.far ai;replace y:=y.z q;replace j:=j.z q;replace o:=o.z q;replace t:=t.k0 q;replace v:=v.k0 q;clear N q;refine R.on 1 ?_;refine O.val a2 rfl rfl (by decide) Aa (by exact E.ld a2 U37 (o)) trivial fun _ a2=>?_;refine R.on 5 ?_;refine O.append a2 rfl Aa (by decide) U37 Zc rfl rfl rfl rfl t.codes.own (b2.slNW (size:=1) rfl) (by intro u hu; simp at hu; subst hu; rfl) (by unfold maxLen; omega) (by omega) fun _ c7 bt bx AP=>?_;have au:=AP.kept.size;have b3:=AP.grow t.codes y;have a1:=v.keptO AP.kept t.codes.own (by decide) (by decide) (fun a ha=>Nat.le_trans bf (t.codes.from a ha));have b1:=o.kept AP.kept (Bc t.codes.own o (by decide));have ag:=j.kept AP.kept (Bc t.codes.own j (by decide));have b5:=t.pushc bf y.size AP;refine ⟨trivial,fun a2=>?_⟩;clear b2 y v o t j;have y:=b3;have v:=a1;have o:=b1;have t:=b5;have j:=ag;clear b3 a1 b1 b5 ag AP;refine rs [6] a2 fun _ a2=>?_;refine R.on 7 ?_;refine OT.store a2 rfl Aa Z7 rfl rfl rfl o (by (simp [Value.cells]; done)) fun _ cd a2 b4 a6=>?_;have az:=a6.size;replace y:=y.trans a6 (B6 (by omega));replace j:=j.kn a6;replace t:=(by exact t.k1 a6 o (by decide) (by omega));replace v:=v.k1 a6 (by omega) (by omega) o (by decide);replace o:=b4;simp only [Value.cells,z1,z2,z3,Nat.reduceAdd,Nat.zero_add] at o
     clear a6;refine R.done (by kernel_rfl) (bg _ _ (mu r9) ?_ ?_)
     ·omega
     exact ⟨{ qq with codes:=qq.codes ++ [(v9 : Int)] },r9,{ sq with ca:=bt,cc:=bx },m',rfl,by omega,by rw [← bm,Tt bn bo (by omega)]; simp only [e9],bh,by show qq.subs.length + (qq.codes ++ [(v9 : Int)]).length + _ ≤ _; rw [List.length_append,List.length_singleton]; omega,y,j,v,by rw [Pk.cells,List.length_append]; exact o,t,a2.sub (sx (sx (sx sn)))⟩
    refine C.cF a0 rfl ?_;exact wp_exit (jK af (by rw [ac]; exact ⟨qq,rq,sq,by rw [d3,hS]; simp only; rw [← bm]; exact Mk (by (right; right; exact List.eq_nil_of_length_eq_zero (by omega))),y,j,v,o,t,a0.sub (sx (sx sn))⟩))
   refine R.runT [11,12,13,14,15,16,17,18,19,20,21] (tf 22 []) d ht (fun _ _ _ _ h=>h) ⟨y,o,BG⟩ (by kernel_rfl) fun _ d=>?_;have d:=d.sub (sv 80 (.bool false) (pkT d [1,4,5]));refine R.dn k1 ?_;refine C.cF d rfl ?_;exact wp_exit (jK af (by rw [ac]; exact ⟨qq,rq,sq,by rw [d3,hS]; simp only; rw [← bm]; exact Mk (by (right; left; assumption)),y,j,v,o,t,d.sub (sx (sx sn))⟩))
  refine R.runT [4,5,6,7,8,9,10,11,12,13,14,15,16,17,18,19,20,21] (tf 22 []) x ht (fun _ _ _ _ h=>h) ⟨y,o,BG⟩ (by kernel_rfl) fun _ x=>?_;have x:=x.sub (sv 80 (.bool false) (pkT x [1,4,5]));refine R.dn k1 ?_;refine C.cF x rfl ?_;exact wp_exit (jK af (by rw [ac]; exact ⟨qq,rq,sq,by rw [d3,hS]; simp only; rw [← bm]; exact Mk (by (left; omega)),y,j,v,o,t,x.sub (sx (sx sn))⟩))
 intro _ w4 hj;rw [ac] at hj;clear ac af;obtain ⟨p9,r9,s9,hR,y,j,v,o,t,x⟩:=hj
 try clear f
 refine C.sk fun _ k=>?_;refine L.s x fun _ f=>?_;refine L.storeR f Aa Z8 rfl rfl rfl j rfl rfl fun _ w5 f b9 a8=>?_;have c5:=a8.size;replace y:=y.trans a8 (B6 (by omega));replace v:=v.k1 a8 (by omega) (by omega) j (by decide);replace o:=o.kn a8;replace t:=(by exact t.k1 a8 j (by decide) (by omega));replace j:=b9;clear a8;refine wn k (wp_ret ?_); (try simp only [xt,xb]); refine C.retC f rfl rfl j U39 rfl Z8 ?_;exact ⟨p9,r9,s9,hR,rfl,y,v,t⟩
end Go.Proofs.YtkdeedhjkjffpaaGreat
namespace Go.Proofs.YtkdeedhjkjffpaaGreat
open Go.RowKit Go.Hub Go.Vl
theorem szN_cases (n : Int) : (n < 0 ∧ szN n = 0) ∨ (¬ n < 0 ∧ 268435455 < n ∧ szN n = 0) ∨ (¬ n < 0 ∧ ¬ 268435455 < n ∧ n < 128 ∧ szN n = 1) ∨ (¬ n < 0 ∧ ¬ 268435455 < n ∧ ¬ n < 128 ∧ n < 16384 ∧ szN n = 2) ∨
    (¬ n < 0 ∧ ¬ 268435455 < n ∧ ¬ n < 128 ∧ ¬ n < 16384 ∧ n < 2097152 ∧ szN n = 3) ∨ (¬ n < 0 ∧ ¬ 268435455 < n ∧ ¬ n < 128 ∧ ¬ n < 16384 ∧ ¬ n < 2097152 ∧ szN n = 4):=by
  unfold szN; (repeat' split) <;> omega
theorem Si (n : Int) (w : World) : Calls Tryz.prog 74 #[.int .i64 n] w fun e w'=>e = .returned (.int .i64 (szN n)) ∧ w = w':=by
  rcases szN_cases n with ⟨a,h⟩ | ⟨a,b,h⟩ | ⟨a,b,c,h⟩ | ⟨a,b,c,d,h⟩ | ⟨a,b,c,d,f,h⟩ | ⟨a,b,c,d,f,h⟩
  all_goals
    rw [h];clear h
    go_enter Tryz.func74,Tryz.ntmps74
    go_wp2
    go_ret
    exact ⟨rfl,rfl⟩
end Go.Proofs.YtkdeedhjkjffpaaGreat
namespace Go.Proofs.YtkdeedhjkjffpaaGreat
open Go.RowKit Go.Hub Go.Vl
theorem y6n : (Tryz.prog.info? 5).map (fun i=>(i.zero,i.size,i.bytes)) = some (some (.int .u8 0),1,1):=by kernel_rfl
def Yu (n : Int) (w : World) (e : Ending) (w' : World) : Prop:=
  Below w.heap.size w w' ∧ ((szN n = 0 ∧ e = .returned (.tuple #[.slice none 0 0, .int .i64 31])) ∨
    (0 < szN n ∧ ∃ v,e = .returned (.tuple #[v,.int .i64 0]) ∧ Own w' 5 1 v (szN n) ((Gj n).map u8) ∧ ∀ k,v.ownBlock = some k → w.heap.size ≤ k))
theorem y3n (n : Int) (w : World) (hs : szN n = 1) (h0 : 0 ≤ n) (h1 : n < 128) : Calls Tryz.prog 81 #[.int .i64 n] w (Yu n w):=by
  obtain ⟨i0,hi0,hz0,hz1,hz2⟩:=info_parts y6n;have HS:=Fj hs;clear hs
  go_enter Tryz.func81,Tryz.ntmps81
  go_wp2_with fail
  refine (Si n _).mono ?_;rw [HS.out];rintro e w1 ⟨rfl,rfl⟩
  go_wp2_with fail
  go_loopg [5,6] 1 (fun g v iv wr=>∃ i : Nat,i + g = 1 ∧ iv = .int .i64 i ∧ Own wr 5 1 v i (((Gj n).take i).map u8) ∧ Below w.heap.size w wr ∧ ∀ k,v.ownBlock = some k → w.heap.size ≤ k)
  case atStart=>exact ⟨0,rfl,rfl,Own.nil _ _ _,Below.refl _ _,by simp [Value.ownBlock]⟩
  case round=>
    obtain ⟨i,hi,rfl,ho,hb,hk⟩:=hrel;obtain ⟨A,c,rfl,hc1,hc2⟩:=ho.form;have HO:=Fj (And.intro ho (And.intro hb hk));clear ho hb hk
    rcases (show (i = 0 ∧ gk = 1) ∨ (i = 1 ∧ gk = 0) by omega) with ⟨rfl,rfl⟩ | ⟨rfl,rfl⟩
    · obtain ⟨z, hz⟩ : ∃ z : Int, z = n % 128 := ⟨_, rfl⟩
      have hcl : bits BinOp.and IntKind.i64 (n) 127 = n % 128:=x4r 7 (by omega) _ (by omega) (by omega);have hzu : u8 (Gq n 0 1) = .int .u8 z:=by unfold u8; rw [G3,hz]; unfold Kc; simp
      have htk : (Gj n).take (0 + 1) = (Gj n).take 0 ++ [Gq n 0 1]:=by
        rw [List.take_succ,Yi n 0 (by rw [HS.out]; omega),HS.out]; rfl
      have HT:=Fj (And.intro hzu htk);have hown:=HO.out.1.alloc (.cells #[.int .u8 z] 5);have hrd:=Rds.boxed wr #[.int .u8 z] 5 1 rfl;clear hzu htk
      go_wp2_with (first
        | (at_builtin; simp only [← hz]
           refine Jo _ rfl (.tmp 29) (.tmp 31) _ rfl 5 i0 _ 1 1 U33 hi0 hz0 hz1 hz2 rfl (by omega) (.slice A 0 c) 0 _ rfl hown _ _ _ _ _ rfl hrd (by simp [Value.oneCell']) (by unfold maxLen; omega) (by omega) ?_
           intro v2 w2 o2 k2 at2))
      have F : Own w2 5 1 v2 (0 + 1) (((Gj n).take (0 + 1)).map u8) ∧ Below w.heap.size w w2 ∧ ∀ k,v2.ownBlock = some k → w.heap.size ≤ k:=by
        rw [HT.out.2,List.map_append,List.map_cons,List.map_nil,HT.out.1];have hb:=HO.out.2.1;have k1 : Kept [] wr (wr.alloc (.cells #[.int .u8 z] 5)):=(Kept.refl _ _).alloc _;refine ⟨o2,(hb.trans (k1.below (by simp) hb.size)).trans (k2.below (fun x hx=>HO.out.2.2 x (by simpa using hx)) (by have:=hb.size; simp; omega)),fun k hk=>?_⟩
        rcases at2 k hk with h | h
        · exact HO.out.2.2 k h
        have:=hb.size; simp at h; omega
      have HF:=Fj F;clear F o2 k2 at2 hown hrd
      go_wp2
      go_roundg 0
      case measure=>omega
      case rel=>exact ⟨1,rfl,rfl,HF.out⟩
    go_wp2
    go_ret2
    refine ⟨HO.out.2.1,.inr ⟨by rw [HS.out]; omega,_,rfl,?_,HO.out.2.2⟩⟩;have:=HO.out.1;rw [HS.out]
    rwa [List.take_of_length_le (by rw [Dy,HS.out]; omega)] at this
end Go.Proofs.YtkdeedhjkjffpaaGreat
namespace Go.Proofs.YtkdeedhjkjffpaaGreat
open Go.RowKit Go.Hub Go.Lib Go.Vl
def y8v (p : Pk) (w : World) (e : Ending) (w' : World) : Prop:=Kept [] w w' ∧ ∃ A c,e = .returned (.tuple #[.slice A (Fu p).length c,.int .i64 0]) ∧ FB w w' A c (Fu p)
theorem x1o {w : World} {v : Value} {n : Nat} {l : List UInt8} (h : Own w 5 1 v n (l.map u8)) : ∃ A c,v = .slice A n c:=by
  obtain ⟨A,c,e,_⟩:=h.form;exact ⟨A,c,e⟩
theorem y6o {n : Int} {w w' : World} {e : Ending} (i : 0 ≤ n ∧ n ≤ 268435455) (h : Yu n w e w') : Kept [] w w' ∧ ∃ A c,e = .returned (.tuple #[.slice A (Gj n).length c,.int .i64 0]) ∧ FB w w' A c (Gj n):=by
  obtain ⟨a,h⟩:=h;refine ⟨Kept.of_below a [],?_⟩
  rcases h with ⟨j,_⟩ | ⟨_,v,g,f,d⟩
  · have := Yj n i
    omega
  obtain ⟨A,c,rfl⟩:=x1o f;rw [← Dy] at f g;exact ⟨A,c,g,f,fun b a=>d b ((Ag A _ c b).2 a)⟩
theorem x1p (n : Int) (w : World) (a : 0 ≤ n ∧ n ≤ 127) : Calls Tryz.prog 81 #[.int .i64 n] w fun e w'=>Kept [] w w' ∧ ∃ A c,e = .returned (.tuple #[.slice A (Gj n).length c,.int .i64 0]) ∧ FB w w' A c (Gj n):=(y3n n w (by unfold szN; rw [if_neg (by omega),if_pos (by omega)]) (by omega) (by omega)).mono fun _ _ h=>y6o (by omega) h
theorem FB.one {f w w' : World} {g : Nat} {b : UInt8} {cs : Array Value} (h : Newb w w' g 5 cs) (i : f.heap.size ≤ w.heap.size) (a : cs.toList = [b].map u8) : FB f w' (some ⟨g,0,none⟩) 1 [b]:=by
  have j : cs.size = 1 * 1:=by
    have:=congrArg List.length a
    simpa using this
  have c:=h.own (k:=1) (size:=1) j (by decide);rw [a] at c;exact ⟨c,fun x d=>by simp at d; subst d; exact Nat.le_trans i h.lo⟩
theorem Sj (p : Pk) (s : Ad) (w : World) (IP : p.In w s) (hL : p.Len) (m : RightP p) : Calls Tryz.prog 45 #[.agg (p.cells s)] w (y8v p w):=by
 have h : Kept [] w w:=Kept.refl [] w;have bg:=Hr.1 m.kd;have ap:=m.len;have bh:=m.nk;refine Bw Tryz.func45 Tryz.ntmps45 fun _ f=>?_;refine C.sk fun _ k=>?_;refine L.box f Aa (by decide) rfl rfl fun _ w1 g0 N f=>?_;obtain ⟨d,q,a5,aq,au⟩:=N.al;have af:=h.lo a5;replace h:=h.z q;clear N q;refine pe f k fun _ f=>?_;refine wp_seq_k fun _ k=>C.sk fun _ k1=>?_;refine L.s f fun _ f=>?_;refine L.cl f (Dt f Tryz.call78) (W8 p s _ (IP.kept h) hL m) ?_;rintro e w2 ⟨q,rfl⟩;refine ⟨_,rfl,fun _ f=>?_⟩;have av:=q.size;replace h:=h.z q;replace d:=d.z q;clear q;refine L.s f fun _ f=>?_;have f:=f.as (i:=10) (v':=.bool false) rfl (by rfl);refine wn k1 ?_;refine C.cF f rfl ?_;refine wp_skip (k _ _ ?_);refine pr f fun _ f=>?_;obtain ⟨n,j⟩ : ∃ J : Act → World → Prop,J = fun a W=>∃ fl : Int,p.kind * 16 + fl = Bi p ∧ (0 ≤ fl ∧ fl ≤ 15) ∧ Kept [] w W ∧ Blk W g0 39 (p.cells s) ∧ Fr 49 a [(1,.pointer (some ⟨g0,0,none⟩)),(4,.int .i64 fl)]:=⟨_,rfl⟩;refine C.cut n ?_ ?_
 ·skip;refine pr f fun _ g=>?_;refine wp_block ?_;refine wp_seq_k fun _ k=>?_;refine pr g fun _ g=>?_;refine C.sp g (fun h0 g=>?_) (fun h0 g=>?_)
  ·refine wp_skip (k _ _ ?_);have c:=g.pk [1,4,12,13];refine C.cT c rfl ?_;refine C.region ?_;refine L.s c fun _ c=>?_;exact wpList_nil (jK n (by rw [j]; exact ⟨2,by unfold Bi; rw [if_pos (by omega)],by omega,h,d,c.sub (sx (sx sn))⟩))
  refine pr g fun _ g=>?_;refine C.sp g (fun h1 g=>?_) (fun h1 g=>?_)
  ·refine wp_skip (k _ _ ?_);have c:=g.pk [1,4,12,13];refine C.cT c rfl ?_;refine C.region ?_;refine L.s c fun _ c=>?_;exact wpList_nil (jK n (by rw [j]; exact ⟨2,by unfold Bi; rw [if_pos (by omega)],by omega,h,d,c.sub (sx (sx sn))⟩))
  refine Ib g k fun _ g=>?_;refine C.sp g (fun h2 g=>?_) (fun h2 g=>?_)
  ·refine C.region ?_;refine L.s g fun _ c=>?_;exact wpList_nil (jK n (by rw [j]; exact ⟨2,by unfold Bi; rw [if_pos (by omega)],by omega,h,d,c.sub (sx (sx sn))⟩))
  refine pr g fun _ g=>?_;refine C.sp g (fun h3 g=>?_) (fun h3 g=>?_)
  ·have bi:=(Mj m (by omega)).1;have bd:=Jt p.dup 8 (by omega);have bj:=Jt p.retain 1 (by omega);have l:=dk w2 1;refine R.bT (S:=fun W=>(Kept [] w W) ∧ (Blk W g0 39 (p.cells s))) (by kernel_rfl) (by kernel_rfl) ⟨h.z l,d.z l⟩ fun ht=>?_;obtain ⟨w3,v⟩ : ∃ W,W = w2.drewN 1:=⟨_,rfl⟩;rw [← v] at l ⊢;clear v;have aw:=l.size;replace h:=h.z l;replace d:=d.z l;clear l;refine rs [0,1,3,4] g fun _ c=>?_;refine R.u 5 c rfl ht ⟨h,d⟩ (fun W hW=>(E.mul c rfl rfl (IntWalk.i64_in _ (by omega)))) fun _ c=>?_;refine rs [7,8] c fun _ c=>?_;refine R.cl 2 c rfl (Bm c Tryz.call79) (Tm _ _ _) ?_;rintro e ab ⟨rfl,rfl⟩;refine ⟨_,rfl,⟨h,d⟩,fun _ c=>?_⟩;refine rs [6] c fun _ c=>?_;refine R.cl 9 c rfl (Bm c Tryz.call79) (Tm _ _ _) ?_;rintro e ab ⟨rfl,rfl⟩;refine ⟨_,rfl,⟨h,d⟩,fun _ c=>?_⟩;refine rs [10,11] c fun _ c=>?_;exact R.done (by kernel_rfl) (jK n (by rw [j]; exact ⟨M2 p.dup 8 + 2 * p.qos + M2 p.retain 1,by unfold Bi; rw [if_neg (by omega),if_pos (by omega)],by omega,h,d,c.sub (sx (sx sn))⟩))
  exact wp_skip (jK n (by rw [j]; exact ⟨0,by unfold Bi; rw [if_neg (by omega),if_neg (by omega)],by omega,h,d,g.sub (sx (sx sn))⟩))
 intro _ w3 hj;rw [j] at hj;clear j n;obtain ⟨fl,aa,ak,h,d,g⟩:=hj
 try clear f
 refine C.sk fun _ k=>?_;refine L.s g fun _ f=>?_;have hC:=Ux p s w3 (IP.kept h) hL (fun hk=>y3e m.val hk) m.nk.1 (by rw [m.z.2.2]; rfl);rw [Yl p m.kd m.bare] at hC;refine L.cl f (Dt f Tryz.call80) hC ?_;rintro e w4 ⟨q,A4,c4,rfl,Q4⟩;have a2:=h.size;have F4:=FB.lw Q4 a2;clear Q4;refine ⟨_,rfl,fun _ f=>?_⟩;have ax:=q.size;replace h:=h.z q;replace d:=d.z q;clear q;refine pe f k fun _ f=>?_;refine C.sk fun _ k=>?_;(iterate 2 refine L.s f fun _ f=>?_);refine L.cl f (Dt f Tryz.call81) (x1p _ _ (by omega)) ?_;rintro e w5 ⟨q,A5,c5,rfl,Q5⟩;have a2:=h.size;have F5:=FB.lw Q5 a2;clear Q5;refine ⟨_,rfl,fun _ f=>?_⟩;have ay:=q.size;replace h:=h.z q;replace d:=d.z q;replace F4:=F4.k0 q;clear q;refine pe f k fun _ f=>?_;refine wp_seq_k fun _ k=>?_;have a4:=h;replace h : Kept [] w5 w5:=Kept.refl [] _;refine C.region ?_;(iterate 2 refine L.s f fun _ f=>?_);refine L.va f (E.mul f rfl rfl (IntWalk.i64_in _ (by omega))) fun _ f=>?_;(iterate 2 refine L.s f fun _ f=>?_);refine L.va f (E.conv f U3 U5 rfl (wrap_u8 _)) fun _ f=>?_;refine L.buildSlice f Aa (by decide) (pL f rfl) U33 Zd rfl rfl (Zg _) fun _ w6 g5 N f=>?_;have FZ:=FB.one N (b:=b8 (16 * p.kind + fl)) h.size (by simp [Ym]);obtain ⟨b5,q,a6,ar,az⟩:=N.al;have ag:=h.lo a6;have a7 : g0 ≠ g5:=by have:=d.lt; omega
 replace h:=h.z q;replace d:=d.z q;clear N q;refine L.s f fun _ f=>?_;refine L.append f Aa (by decide) U33 Z9 rfl rfl rfl rfl FZ.own (F5.sl.kept h) (Nz) (by first | (simp [Dy,maxLen]; have:=Md ((Ac p).length : Int); omega)) (by first | (simp [Dy,maxLen]; have:=Md ((Ac p).length : Int); omega)) fun _ w7 A7 c7 x f=>?_;have t:=x.nextB FZ h.size ((Gj ((Ac p).length : Int))) (rfl) (rfl);have o:=x.kept;have b0:=o.size;replace h:=FZ.rel h o;replace d:=d.kept o (Bc FZ.own d (by decide));clear o x FZ;have f:=f.as (i:=46) rfl (I0 t (rfl));refine L.s f fun _ f=>?_;refine L.append f Aa (by decide) U33 Z9 rfl rfl rfl rfl t.own (F4.sl.kept h) (Nz) (by first | (simp [Dy,maxLen]; have:=Md ((Ac p).length : Int); omega)) (by first | (simp [Dy,maxLen]; have:=Md ((Ac p).length : Int); omega)) fun _ w8 A8 c8 y f=>?_;have a0:=y.nextB t h.size ((Ac p)) (rfl) (rfl);have r:=y.kept;have b1:=r.size;replace h:=t.rel h r;replace d:=d.kept r (Bc t.own d (by decide));clear r y t;have f:=f.as (i:=48) rfl (I0 a0 (rfl));refine re f k ?_;have he : [b8 (16 * p.kind + fl)] ++ Gj ((Ac p).length : Int) ++ Ac p = Fu p:=by unfold Fu; rw [← aa,Int.mul_comm]; rfl
 rw [he] at a0;exact ⟨a4.z h,_,_,by rw [← he],FB.lw a0 a4.size⟩
end Go.Proofs.YtkdeedhjkjffpaaGreat
namespace Go.Proofs.YtkdeedhjkjffpaaGreat
open Go.RowKit Go.Hub Go.Lib Go.Vl
theorem y3o : ∀ x : Fin 128,bits .and .u8 (x.val : Int) 127 = x.val:=by decide +kernel
theorem y8w : ∀ x : Fin 128,bits .or .i64 0 (x.val : Int) = x.val:=by decide +kernel
theorem x1q (n : Int) (w : World) : Calls Tryz.prog 74 #[.int .i64 n] w fun e w'=>w = w' ∧ e = .returned (.int .i64 (szN n)):=(Si n w).mono fun _ _ h=>⟨h.2,h.1⟩
theorem x9q (b : UInt8) (x : List UInt8) (A : Option Addr) (c : Nat) (w : World) (m : Sl w A (b :: x).length 1 ((b :: x).map u8)) (hx : x.length ≤ 1000000) (t : b.toNat < 128) : Calls Tryz.prog 43 #[.slice A (b :: x).length c] w (fun e w'=>w = w' ∧ e = .returned (.tuple #[.int .i64 (b.toNat : Nat),.int .i64 1,.int .i64 0])):=by
 obtain ⟨p,g,h⟩:=m.addr (by simp);have r : (b :: x).length = x.length + 1:=rfl;have d:=y3o ⟨b.toNat,t⟩;have j:=y8w ⟨b.toNat,t⟩;simp only at d j;have o : szN (b.toNat : Int) = 1:=by unfold szN; rw [if_neg (by omega),if_pos (by omega)]
 refine Bw Tryz.func43 Tryz.ntmps43 fun _ f=>?_;refine pr f fun _ f=>?_;refine pr f fun _ f=>?_;refine wp_seq_k fun _ _=>?_;refine pr f fun _ f=>?_;refine wp_block ?_;refine C.loop (fun gk a W=>w = W ∧ Fr 39 a [(0,.slice A (b :: x).length c),(5,.int .i64 0),(6,.int .i64 0)]) (1) ?_ ?_
 ·exact ⟨rfl,f.sub (sx (sx (sx sn)))⟩
 intro v _ w1 y u q;obtain ⟨z,n⟩:=y;subst z
 try clear f
 refine wp_seq_k fun _ k=>C.sk fun _ l=>?_;refine L.s n fun _ f=>?_;refine L.s f fun _ f=>?_;have f:=f.as (i:=8) (v':=.bool true) rfl (by rfl);refine wn l ?_;refine C.cT f rfl ?_;refine wp_skip (k _ _ ?_);refine wp_seq_k fun _ _=>?_;refine wp_block ?_;refine wp_seq_k fun _ k=>C.sk fun _ l=>?_;(iterate 4 refine L.s f fun _ f=>?_);have f:=f.as (i:=14) (v':=.bool false) rfl (by rw [decide_eq_false]; simp only [List.length_cons]; omega);refine wn l ?_;refine C.cF f rfl ?_;refine wp_skip (k _ _ ?_);refine C.sk fun _ k=>?_;(iterate 4 refine L.s f fun _ f=>?_);refine L.lo f (show World.cell? _ ⟨p,g + (0 : Int).toNat * 1,none⟩ = some (.int .u8 (b.toNat : Nat)) from Iz m h (i:=0) rfl) fun _ f=>?_;refine L.va f (E.and f rfl rfl d) fun _ f=>?_;refine L.va f (E.conv f U5 U3 rfl (IntWalk.i64_in _ (by omega))) fun _ f=>?_;refine L.s f fun _ f=>?_;refine L.va f (E.mul f rfl rfl (rfl : IntKind.i64.wrap (7 * 0) = 0)) fun _ f=>?_;refine L.va f (E.shlN f rfl rfl (by decide) (by decide) (show IntKind.i64.wrap ((b.toNat : Int) * 2 ^ (0 : Int).toNat) = (b.toNat : Int) by rw [show (0 : Int).toNat = 0 from rfl,Int.pow_zero,Int.mul_one]; exact IntWalk.i64_in _ (by omega))) fun _ f=>?_;refine L.va f (E.or f rfl rfl j) fun _ f=>?_;refine pe f k fun _ f=>?_;refine C.sk fun _ k=>?_;(iterate 3 refine L.s f fun _ f=>?_)
 refine L.lo f (show World.cell? _ ⟨p,g + (0 : Int).toNat * 1,none⟩ = some (.int .u8 (b.toNat : Nat)) from Iz m h (i:=0) rfl) fun _ f=>?_;refine L.s f fun _ f=>?_;have f:=f.as (i:=30) (v':=.bool true) rfl (by rw [decide_eq_true]; omega);refine wn k ?_;refine C.cT f rfl ?_;refine wp_seq_k fun _ k=>C.sk fun _ l=>?_;refine L.s f fun _ f=>?_;refine L.cl f (Dt f Tryz.call74) (x1q _ _) ?_;rintro e wx ⟨rfl,rfl⟩;refine ⟨_,rfl,fun _ f=>?_⟩;(iterate 3 refine L.s f fun _ f=>?_);have f:=f.as (i:=35) (v':=.bool false) rfl (by rw [o]; rfl);refine wn l ?_;refine C.cF f rfl ?_;refine wp_skip (k _ _ ?_);refine pr f fun _ f=>?_;refine wp_ret ?_; (try simp only [xt,xb]); refine C.ret3 f rfl rfl rfl rfl ?_;exact ⟨rfl,rfl⟩
end Go.Proofs.YtkdeedhjkjffpaaGreat
namespace Go.Hub
open Go.RowKit
section
variable {P : Program} {a : Act} {w : World} {n : Nat} {l : FL} {fn : Func} {R : Ending → World → Prop}
theorem C.retC3 (f : Fr n a l) {p u v : Tmp} {ty : TypeId} (o : fn.results = #[.cell p ty, .tmp u, .tmp v]) {g : Nat} {cs : Array Value} {t : TypeId} {d : TypeDesc} {x y : Value} (m : look l p = some (.pointer (some ⟨g, 0, none⟩))) (r : look l u = some x) (s : look l v = some y) (B : Blk w g t cs)
    (q : P.underlying ty = some d) (j : (match d with | .struct _ | .array _ _=>true | _=>false) = true) (hi : (P.info? ty).map (·.size) = some cs.size) (h : R (.returned (.tuple #[.agg cs,x,y])) w) : bodyPost P fn R .ret a w:=by
  refine bodyPost_ret (v:=.tuple #[.agg cs,x,y]) ?_ f.defers h;have k:=run_loadVar_row (P:=P) w g t ty cs (0,0) d B q j hi;have b : a.tmps[p]?.getD undef = .pointer (some ⟨g,0,none⟩):=by simpa using f.get m
  have c : a.tmps[u]?.getD undef = x:=by simpa using f.get r
  have i : a.tmps[v]?.getD undef = y:=by simpa using f.get s
  simp [results,o,b,c,i,asAddr,Sem.run_bind,Result.andThen,k]
end
end Go.Hub
namespace Go.Proofs.YtkdeedhjkjffpaaGreat
open Go.RowKit Go.Hub Go.Lib Go.Vl
theorem U1 (a : UInt8) (x t : List UInt8) (i : t = a :: x) (A : Option Addr) (c : Nat) (w : World) {B : Nat} (h : Bs [5] B w A t.length t) (g : t.length ≤ 1000000) (b : a.toNat < 128) : Calls Tryz.prog 43 #[.slice A t.length c] w fun e w'=>w = w' ∧ ∃ n s er : Int,Sa t = (n,s,er) ∧ (0 ≤ n ∧ n ≤ 268435455) ∧ (0 ≤ s ∧ s ≤ 4) ∧ e = .returned (.tuple #[.int .i64 n,.int .i64 s,.int .i64 er]):=
  by
  subst i
  exact (x9q a x A c w h.toSl (by simp at g; omega) b).mono fun e w' ⟨d,f⟩=>⟨d,(a.toNat : Nat),1,0,by simp [Sa,rd,b]; omega,by omega,by omega,f⟩
theorem x5b {W : World} {d : Option Addr} {b s n : Nat} {a : UInt8} {t : List UInt8} {lo' : Int} {B : Nat} (j : Bs [5] B W d ((a :: t).take (s + n + 1)).length ((a :: t).take (s + n + 1))) (i : ((a :: t).take (s + n + 1)).length ≤ b) (o : s + n ≤ t.length) (f : lo' = (s + 1 : Nat)) :
    ∃ A1 c1,(Value.slice (if b = lo'.toNat then d else d.map (·.add (lo'.toNat * 1))) (((a :: t).take (s + n + 1)).length - lo'.toNat) (b - lo'.toNat)) = .slice A1 ((t.drop s).take n).length c1 ∧ Bs [5] B W A1 ((t.drop s).take n).length ((t.drop s).take n) ∧ ((t.drop s).take n).length ≤ c1:=by
  subst f;have g : ((a :: t).take (s + n + 1)).length = s + n + 1:=by rw [List.length_take,List.length_cons]; omega
  have h:=j.cut (k:=s + 1) (c:=b) (by omega) i
  have l : ((a :: t).take (s + n + 1)).drop (s + 1) = (t.drop s).take n:=by
    show (t.take (s + n)).drop s = _;rw [List.drop_take]
    congr 1
    omega
  have m : ((t.drop s).take n).length = n:=by rw [List.length_take,List.length_drop]; omega
  rw [l,g] at h;rw [m];rw [g] at i ⊢;rw [Int.toNat_natCast];rw [show s + n + 1 - (s + 1) = n by omega] at h ⊢;exact ⟨_,b - (s + 1),rfl,h,by omega⟩
theorem Ii : em.size ≤ 1000000:=by decide
section
variable {p : Pk} {r : Rd}
theorem N9 (r : Rd) : r.lumpR.1.length ≤ 65535:=by
  have h:=x4v r 2 (by decide);have:=I1 (r.numR 2).2 (r.numR 2).1.toNat;unfold Rd.lumpR;omega
theorem Ij (r : Rd) : r.textR.1.size ≤ 65535:=by
  unfold Rd.textR;rw [Sf];exact N9 r
theorem Qw (h : p.Len) (r : Rd) : (Sc p r).1.Len:=⟨h.pay,h.wp,h.pass,h.subs,h.codes,h.topic,Nat.le_trans (Ij _) (by omega),h.wt,h.user,h.each⟩
theorem Qx (h : p.Len) (r : Rd) : (Me p r).1.Len:=by
  unfold Me
  split
  · exact ⟨h.pay,Nat.le_trans (N9 _) (by omega),h.pass,h.subs,h.codes,h.topic,h.client,Nat.le_trans (Ij _) (by omega),h.user,h.each⟩
  exact h
theorem Qy (h : p.Len) (r : Rd) : (Mf p r).1.Len:=by
  unfold Mf
  split
  · exact ⟨h.pay,h.wp,h.pass,h.subs,h.codes,h.topic,h.client,h.wt,Nat.le_trans (Ij _) (by omega),h.each⟩
  exact h
theorem Qz (h : p.Len) (r : Rd) : (Mg p r).1.Len:=by
  unfold Mg
  split
  · exact ⟨h.pay,h.wp,Nat.le_trans (N9 _) (by omega),h.subs,h.codes,h.topic,h.client,h.wt,h.user,h.each⟩
  exact h
theorem x1r (h : p.Len) (r : Rd) : (y2b p r).1.Len:=Qz (Qy (Qx (Qw h r) _) _) _
theorem Ml : ∀ (m : Nat) (p : Pk) (r : Rd), p.Len → p.subs.length + mu r ≤ 1000000 → (Jj m p r).1.Len
  | 0,p,r,h,_=>h
  | m + 1,p,r,h,hb=>by
    unfold Jj
    split
    · exact h
    rename_i h0
    have hk : r.lk = false:=by cases e : r.lk <;> simp_all
    have c : r.l ≠ []:=fun e=>h0 (.inr e)
    have d:=x5a c hk
    have a : ∀ z : Int,∀ x ∈ p.subs ++ [(r.textR.1,z)],x.1.size ≤ 1000000:=fun z x b=>by
      rcases List.mem_append.1 b with b | b
      · exact h.each x b
      obtain rfl:=List.mem_singleton.1 b
      exact Nat.le_trans (Ij r) (by omega)
    split
    · have f := x9p r.textR.2 1
      refine Ml m _ _ ⟨h.pay,h.wp,h.pass,?_,h.codes,h.topic,h.client,h.wt,h.user,a _⟩ ?_
      · show (p.subs ++ [_]).length ≤ _
        rw [List.length_append,List.length_singleton]; omega
      show (p.subs ++ [_]).length + _ ≤ _
      rw [List.length_append,List.length_singleton]; omega
    refine Ml m _ _ ⟨h.pay,h.wp,h.pass,?_,h.codes,h.topic,h.client,h.wt,h.user,a _⟩ ?_
    · show (p.subs ++ [_]).length ≤ _
      rw [List.length_append,List.length_singleton]; omega
    show (p.subs ++ [_]).length + _ ≤ _
    rw [List.length_append,List.length_singleton]; omega
theorem Pb : ∀ (m : Nat) (p : Pk) (r : Rd), p.Len → p.codes.length + mu r ≤ 1000000 → (Ge m p r).1.Len
  | 0,p,r,h,_=>h
  | m + 1,p,r,h,hb=>by
    unfold Ge
    split
    · exact h
    rename_i h0
    have hk : r.lk = false:=by cases e : r.lk <;> simp_all
    have a : r.l ≠ []:=fun e=>h0 (.inr e)
    have b:=Nh a hk (n:=1) (by decide)
    refine Pb m _ _ ⟨h.pay,h.wp,h.pass,h.subs,?_,h.topic,h.client,h.wt,h.user,h.each⟩ ?_
    · show (p.codes ++ [_]).length ≤ _
      rw [List.length_append,List.length_singleton]; omega
    show (p.codes ++ [_]).length + _ ≤ _
    rw [List.length_append,List.length_singleton]; omega
theorem x5c (r : Rd) (n : Nat) : (r.takeR n).1.length ≤ r.l.length:=by
  unfold Rd.takeR
  split
  · simp
  rw [List.length_take]; omega
theorem Hs (r : Rd) (n : Nat) : (r.takeR n).2.l.length ≤ r.l.length:=by
  unfold Rd.takeR
  split
  · exact Nat.le_refl _
  rw [List.length_drop]; omega
theorem Xc (c : Int) (d : r.l.length ≤ 1000000) : (Bt c r).1.Len:=by
  have a : ∀ k i : Int,Pk.Len { kind:=k,id:=i }:=fun _ _=>⟨by simp,by simp,by simp,by simp,by simp,Ii,Ii,Ii,Ii,by simp⟩;have b : mu (r.numR 2).2 ≤ 1000000:=Nat.le_trans (Yt _) (Nat.le_trans (Hs _ _) d);unfold Bt
  split
  · exact x1r (a _ 0) r
  split
  · exact ⟨by simp,by simp,by simp,by simp,by simp,Ii,Ii,Ii,Ii,by simp⟩
  split
  · simp only
    refine ⟨?_,by simp,by simp,by simp,by simp,Nat.le_trans (Ij _) (by omega),Ii,Ii,Ii,by simp⟩;refine Nat.le_trans (x5c _ _) ?_;have f : r.textR.2.l.length ≤ r.l.length:=Nat.le_trans (Hs _ _) (Hs _ _)
    split
    · exact Nat.le_trans (Hs _ _) (by omega)
    exact Nat.le_trans f d
  split
  · exact a _ 0
  simp only
  split
  · exact Ml _ _ _ (a _ _) (by simpa using b)
  split
  · exact Pb _ _ _ (a _ _) (by simpa using b)
  exact a _ _
end
end Go.Proofs.YtkdeedhjkjffpaaGreat
namespace Go.Proofs.YtkdeedhjkjffpaaGreat
open Go.RowKit Go.Hub Go.Lib Go.Vl
theorem Zj (a : Option Addr) (b c : Nat) : Tryz.prog.built 128 [(0,.slice a b c)] = some #[.slice a b c,(.int .i64 0),(.bool false)]:=by kernel_rfl
structure PkB (B : Nat) (W : World) (p : Pk) (s : Ad) : Prop where
  pay : Bs [5] B W s.pa p.pay.length p.pay
  wp : Bs [5] B W s.wa p.wp.length p.wp
  pass : Bs [5] B W s.sa p.pass.length p.pass
  subs : Own W 79 2 (.slice s.ua p.subs.length s.uc) p.subs.length (subCells p.subs)
  codes : Own W 3 1 (.slice s.ca p.codes.length s.cc) p.codes.length (codeCells p.codes)
section
variable {B x : Nat} {w W W' : World} {p : Pk} {s : Ad} {t : TypeId} {cs : Array Value}
theorem PkM.o (h : PkM B w W p s) : PkB B W p s:=⟨h.pay,h.wp,h.pass,h.subs.own,h.codes.own⟩
end
def y6p (B : Nat) (v : Pk × Int × Int) (w : World) (e : Ending) (w' : World) : Prop:=Kept [] w w' ∧ v.1.Len ∧ ∃ s,e = .returned (.tuple #[.agg (v.1.cells s),.int .i64 v.2.1,.int .i64 v.2.2]) ∧ PkB B w' v.1 s
section
variable {W : World} {A : Option Addr} {c B : Nat} {l : List UInt8} {c0 : UInt8} {t : List UInt8}
theorem x5d (b : Bs [5] B W A (c0 :: t).length (c0 :: t)) (a : (c0 :: t).length ≤ c) : ∃ A1 c1,(Value.slice (if c = (1 : Int).toNat then A else A.map (·.add ((1 : Int).toNat * 1))) ((c0 :: t).length - (1 : Int).toNat) (c - (1 : Int).toNat)) = .slice A1 t.length c1 ∧ Bs [5] B W A1 t.length t ∧ t.length ≤ c1:=by
  have h:=b.cut (k:=1) (c:=c) (by simp) a;refine ⟨_,_,rfl,h,?_⟩;simp only [List.length_cons] at a;show t.length ≤ c - 1;omega
theorem x9r {k : Nat} {hi : Int} (d : Bs [5] B W A l.length l) (b : l.length ≤ c) (g : hi = (k : Nat)) (a : k ≤ l.length) :
    ∃ A1 c1,(Value.slice A hi.toNat c) = .slice A1 (l.take k).length c1 ∧ Bs [5] B W A1 (l.take k).length (l.take k) ∧ (l.take k).length ≤ c1:=by
  subst g;have h:=d.head a;have f : (l.take k).length = k:=by rw [List.length_take]; omega
  rw [f];exact ⟨A,c,by rw [Int.toNat_natCast],h,by omega⟩
end
theorem U2 (l : List UInt8) (A : Option Addr) (c : Nat) (w : World) (B : Nat) (hB : B ≤ w.heap.size) (SB : Bs [5] B w A l.length l) (ab : l.length ≤ c) (hl : l.length ≤ 1000000) (q : Pk) (m : RightP q) (a6 : l = Fu q) : Calls Tryz.prog 12 #[.slice A l.length c] w (y6p B (q,(l.length : Int),0) w):=by
 have g : Kept [] w w:=Kept.refl [] w;have SA : Sl w A l.length 1 (l.map u8):=SB.toSl;refine Bw Tryz.func12 Tryz.ntmps12 fun _ f=>?_;refine C.sk fun _ j=>?_;refine L.alloc f Aa (by decide) (z:=(.agg #[(.int .i64 0),(.bool false),(.bool false),(.int .i64 0),(.int .i64 0),(.string ⟨#[]⟩),(.slice none 0 0),(.int .i64 0),(.string ⟨#[]⟩),(.bool false),(.int .i64 0),(.bool false),(.string ⟨#[]⟩),(.slice none 0 0),(.int .i64 0),(.bool false),(.bool false),(.bool false),(.string ⟨#[]⟩),(.slice none 0 0),(.bool false),(.int .i64 0),(.slice none 0 0),(.slice none 0 0)])) (fun _=>by kernel_rfl) rfl fun _ w1 g0 N f=>?_;obtain ⟨a,d,ax,c9,cd⟩:=N.al;have bv:=g.lo ax;replace g:=g.z d;clear N d;refine pe f j fun _ f=>?_;refine wp_seq_k fun _ j=>?_;refine pr f fun _ f=>?_;refine f.sD 14 rfl (fun h0 a4=>?_) (fun h0 a4=>?_)
 ·clear f
  exfalso
  (have h9:=Uy q; rw [← a6] at h9; omega)
 clear f SA;obtain ⟨c0,t,rfl⟩:=List.exists_cons_of_ne_nil (l:=l) (fun h=>by subst h; simp at h0);have SA:=SB.toSl;obtain ⟨b0,ae,ap⟩:=SA.addr (by simp);have c7 : (c0 :: t).length = t.length + 1:=rfl;have cu : c0.toNat < 256:=UInt8.toNat_lt _;obtain ⟨ai,a7⟩:=x1f m a6;have hb : Ie c0.toNat = true:=by rw [ai]; exact (Kh m).2.2.2
 have ba : Sa t = (((Ac q).length : Int),((szN (Ac q).length : Nat) : Int),0):=by have h9:=N6 m []; rw [List.append_nil] at h9; rw [a7]; exact h9
 have bc:=m.len;obtain ⟨cz,bb,bm⟩:=x9l m a7;have ac : (c0.toNat : Int) / 16 = q.kind:=by rw [ai]; exact (Kh m).1
 have av:=m.nk;have cx : t.length = szN (Ac q).length + (Ac q).length:=by rw [a7,List.length_append,Dy]
 refine C.cF a4 rfl ?_;refine wp_skip (j _ _ ?_);have f:=a4.pk [0,2];refine wp_seq_k fun _ j=>C.sk fun _ k2=>?_;(iterate 2 refine L.s f fun _ f=>?_);refine L.lo f (show World.cell? _ ⟨b0,ae + (0 : Int).toNat * 1,none⟩ = some (.int .u8 (c0.toNat : Nat)) from Iz (SA.kept g) ap (i:=0) rfl) fun _ f=>?_;refine L.cl f (Dt f Tryz.call42) (x4w (c0.toNat : Nat) _ (by omega)) ?_;rintro e bn ⟨rfl,rfl⟩;refine ⟨_,rfl,fun _ f=>?_⟩;refine L.s f fun _ f=>?_;have f:=f.as (i:=20) (v':=.bool false) rfl (by rw [x9k,hb]; rfl);refine wn k2 ?_;refine C.cF f rfl ?_;refine wp_skip (j _ _ ?_);refine C.sk fun _ j=>?_;refine L.s f fun _ f=>?_;refine L.va f (E.slLlo f U33 Za rfl rfl (by decide) (by omega)) fun _ f=>?_;obtain ⟨A1,c1,u,ag,c6⟩:=x5d (SB.k0 g) ab;have f:=f.as (i:=24) (v':=.slice A1 (t).length c1) rfl u;clear u;refine L.cl f (Dt f Tryz.call43) (U1 cz _ t bb A1 c1 _ ag (by omega) bm) ?_;rintro e bn ⟨rfl,n,sz,er,hv,bg,bk,rfl⟩;obtain ⟨n,rfl⟩:=Int.eq_ofNat_of_zero_le bg.1;obtain ⟨sz,rfl⟩:=Int.eq_ofNat_of_zero_le bk.1;have bl:=ba.symm.trans hv
 injection bl with v1 v2
 injection v2 with v3 v4
 have bf : n = (Ac q).length:=by omega
 have bj : sz = szN (Ac q).length:=by omega
 subst v4;refine ⟨_,rfl,fun _ f=>?_⟩;refine pe f j fun _ f=>?_;refine wp_seq_k fun _ j=>?_;refine wp_block ?_;refine C.sk fun _ k2=>?_;(iterate 3 refine L.s f fun _ f=>?_);have f:=f.as (i:=29) (v':=.bool false) rfl (by simp);refine wn k2 ?_;refine C.cF f rfl ?_;refine C.sk fun _ k2=>?_;(iterate 3 refine L.s f fun _ f=>?_);have f:=f.as (i:=34) (v':=.bool false) rfl (by rw [decide_eq_false]; simp only [List.length_cons] at *; omega);refine wn k2 ?_;refine C.cF f rfl ?_;refine C.sk fun _ k2=>?_;(iterate 8 refine L.s f fun _ f=>?_);have f:=f.as (i:=38) (v':=.bool false) rfl (by rw [decide_eq_false]; simp only [List.length_cons] at *; omega);refine wn k2 ?_;refine C.cF f rfl ?_;refine wp_skip (j _ _ ?_);refine C.sk fun _ j=>?_;(iterate 5 refine L.s f fun _ f=>?_);refine L.va f (E.slLhi f U33 Za rfl rfl (by omega) (by omega)) fun _ f=>?_;obtain ⟨A3,c3,u,b,au⟩:=x9r (k:=sz + n + 1) (hi:=1 + (sz : Int) + (n : Int)) (SB.k0 g) ab (by omega) (by omega);have f:=f.as (i:=52) (v':=.slice A3 ((c0 :: t).take (sz + n + 1)).length c3) rfl u;clear u;refine pe f j fun _ f=>?_;refine C.sk fun _ j=>?_;(iterate 3 refine L.s f fun _ f=>?_);refine L.va f (E.slLlo f U33 Za rfl rfl (by omega) (by rw [List.length_take]; omega)) fun _ f=>?_;obtain ⟨A2,c2,u,ah,aq⟩:=x5b (s:=sz) (n:=n) (lo':=1 + (sz : Int)) b au (by omega) (by omega)
 have f:=f.as (i:=56) (v':=.slice A2 ((t.drop sz).take n).length c2) rfl u;clear u;refine L.bd f (Zj _ _ _) fun _ f=>?_;refine L.box f Aa (by decide) rfl rfl fun _ w2 g1 N f=>?_;obtain ⟨af,d,ay,ca,ce⟩:=N.al;have bw:=g.lo ay;have az : g0 ≠ g1:=by have:=a.lt; omega
 replace g:=g.z d;replace a:=a.z d;replace ag:=ag.k0 d;replace b:=b.k0 d;replace ah:=ah.k0 d;clear N d;refine pe f j fun _ f=>?_;refine C.sk fun _ j=>?_;(iterate 2 refine L.s f fun _ f=>?_);refine L.lo f (show World.cell? _ ⟨b0,ae + (0 : Int).toNat * 1,none⟩ = some (.int .u8 (c0.toNat : Nat)) from Iz (SA.kept g) ap (i:=0) rfl) fun _ f=>?_;refine L.s f fun _ f=>?_;have RD : PaAt w2 B g1 ⟨(t.drop sz).take n,false⟩:=⟨by omega,A2,c2,0,(t.drop sz).take n,af,ah,aq,Nat.zero_le _,rfl,by rw [List.length_take]; omega⟩;refine L.cl f (Bm f Tryz.call44) (Xb (c0.toNat : Nat) (by omega) (by rw [ac]; exact av.1) (by rw [ac]; exact av.2) B g1 _ _ RD (Nat.le_trans hB g.size)) ?_;rintro e w3 ⟨pp,rr,ss,hq,rfl,d,b9,PN⟩;clear RD;refine ⟨_,rfl,fun _ f=>?_⟩;have cf:=d.size;have cn:=g;have ak:=g.trans d (by intro x hx cv; simp at hx; subst hx; exfalso; omega);have aj:=a.kept d (by simp; omega);have a9:=b.k1 d af (by decide) (by omega);clear g a af d b;have g:=ak;have a:=aj;have b:=a9;clear ak aj a9;have aw : pp.Len:=by have h:=Xc (c0.toNat : Nat) (r:=⟨(t.drop sz).take n,false⟩) (by rw [List.length_take]; omega); rw [hq] at h; exact h
 obtain ⟨_,Ar,cr,ar,cm,BG,-,-⟩:=b9;have hY : (t.drop sz).take n = Ac q:=by rw [a7,bj,bf]; exact x4q _ _
 have bi:=Ih m;rw [hY,ai,bi] at hq
 injection hq with hp9 hr9
 subst hp9;subst hr9;refine L.alloc f Aa (by decide) (z:=(.agg #[(.int .i64 0),(.bool false),(.bool false),(.int .i64 0),(.int .i64 0),(.string ⟨#[]⟩),(.slice none 0 0),(.int .i64 0),(.string ⟨#[]⟩),(.bool false),(.int .i64 0),(.bool false),(.string ⟨#[]⟩),(.slice none 0 0),(.int .i64 0),(.bool false),(.bool false),(.bool false),(.string ⟨#[]⟩),(.slice none 0 0),(.bool false),(.int .i64 0),(.slice none 0 0),(.slice none 0 0)])) (fun _=>by kernel_rfl) rfl fun _ w4 g3 N f=>?_;obtain ⟨p,d,ad,cb,cg⟩:=N.al;have bx:=g.lo ad;have b1 : g0 ≠ g3:=by have:=a.lt; omega
 have b2 : g1 ≠ g3:=by have:=BG.lt; omega
 have bq:=PN.far ad;replace g:=g.z d;replace b:=b.k0 d;replace a:=a.z d;replace BG:=BG.z d;replace PN:=PN.k0 d;clear N d;refine L.storeR f Aa Z8 rfl rfl rfl p rfl rfl fun _ w5 f b7 a0=>?_;have ch:=a0.size;replace g:=g.trans a0 (B6 (by omega));replace b:=b.k1 a0 p (by decide) (by omega);replace a:=a.kn a0;replace BG:=BG.kn a0;replace PN:=PN.k1 a0 p (by decide) (by omega);replace p:=b7;clear a0;refine wn j (C.sk fun _ j=>?_);refine L.s f fun _ f=>?_;refine L.cl f (Dt f Tryz.call45) (Sj q ss _ PN.toIn aw m) ?_;rintro e w6 ⟨d,Aw,cw,rfl,FW⟩;refine ⟨_,rfl,fun _ f=>?_⟩;have ci:=d.size;replace g:=g.z d;replace b:=b.k0 d;replace a:=a.z d;replace BG:=BG.z d;replace PN:=PN.k0 d;replace p:=p.z d;clear d;refine pe f j fun _ f=>?_;refine wp_seq_k fun _ j=>?_;refine wp_seq_k fun _ k2=>?_;have aa : (c0 :: t).take (sz + n + 1) = Fu q:=by rw [List.take_of_length_le (by simp only [List.length_cons]; omega)]; exact a6
 refine C.region ?_;(iterate 5 refine L.s f fun _ f=>?_);have f:=f.as (i:=73) (v':=.bool false) rfl (by rfl);(iterate 4 refine L.s f fun _ f=>?_);have f:=f.as (i:=77) (v':=.bool false) rfl (by rfl);refine L.s f fun _ f=>?_;refine L.va f (E.toStr f rfl U33 U5 U9 (FW.sl)) (hw:=f.y) fun _ f=>?_;refine L.s f fun _ f=>?_;refine L.va f (E.toStr f rfl U33 U5 U9 (b.toSl)) (hw:=f.y) fun _ f=>?_;(iterate 2 refine L.s f fun _ f=>?_);have f:=f.as (i:=83) (v':=.bool false) rfl (by rw [aa]; simp);refine wn k2 ?_;refine C.cF f rfl ?_;refine wp_skip (j _ _ ?_);refine C.sk fun _ j=>?_;(iterate 3 refine L.s f fun _ f=>?_);refine L.storeR f Aa Z8 rfl rfl rfl a rfl rfl fun _ w7 f b8 v=>?_;have cj:=v.size;replace g:=g.trans v (B6 (by omega));replace b:=b.k1 v a (by decide) (by omega);replace BG:=BG.kn v;replace PN:=PN.k1 v a (by decide) (by omega);replace p:=p.kn v;replace FW:=FW.keptB v a (by decide);replace a:=b8;clear v;refine pe f j fun _ f=>?_;refine wp_ret ?_; (try simp only [xt,xb]); refine C.retC3 f rfl rfl rfl rfl a U39 rfl Z8 ?_;refine ⟨g,aw,ss,?_,PN.o⟩;rw [aa,← a6]
end Go.Proofs.YtkdeedhjkjffpaaGreat
namespace Go.Hub
open Go.RowKit Go.WideShapes Go.ChangeMaps
open Go.Maps (Keyed)
structure MT where
  k : TypeId
  e : TypeId
  K : Type
  V : Type
  dom : K → Prop
  kv : K → Value
  kl : K → Lit
  ev : V → Value
structure MT.Ok (M : MT) (P : Program) : Prop where
  keyed : Keyed P M.k
  of : ∀ x,M.dom x → keyOf P M.k (M.kv x) = some (M.kl x)
  inj : ∀ x y,M.dom x → M.dom y → M.kl x = M.kl y → x = y
def RV (v : Value) : Option (DataW Value × List MemPlace):=some (.held v,[])
section
variable {K V : Type} [DecidableEq K]
def lk (E : List (K × V)) (x : K) : Option V:=(E.find? fun p=>decide (p.1 = x)).map (·.2)
def strike (E : List (K × V)) (x : K) : List (K × V):=E.filter fun p=>!decide (p.1 = x)
theorem Bl (y : K) (v : V) (E : List (K × V)) (x : K) : lk ((y,v) :: E) x = if y = x then some v else lk E x:=by
  unfold lk;rw [List.find?_cons]
  by_cases h : y = x <;> simp [h]
theorem Dq (E : List (K × V)) (x : K) : lk (strike E x) x = none:=by
  induction E with
  | nil=>rfl
  | cons p r ih=>
    obtain ⟨y,v⟩:=p;unfold strike;rw [List.filter_cons]
    by_cases h : y = x
    · simpa [h,strike] using ih
    simp only [h,decide_false,Bool.not_false,if_true];rw [Bl,if_neg h];exact ih
theorem Av (E : List (K × V)) {x y : K} (b : y ≠ x) : lk (strike E x) y = lk E y:=by
  induction E with
  | nil=>rfl
  | cons p r ih=>
    obtain ⟨z,v⟩:=p;unfold strike;rw [List.filter_cons]
    by_cases h : z = x
    · subst h
      rw [if_neg (by simp),Bl,if_neg (fun e=>b e.symm)];exact ih
    simp only [h,decide_false,Bool.not_false,if_true];rw [Bl,Bl]
    by_cases a : z = y
    · simp [a]
    rw [if_neg a,if_neg a];exact ih
theorem Ni {E : List (K × V)} {x : K} {v : V} (h : lk E x = some v) : (x,v) ∈ E:=by
  unfold lk at h
  cases hf : E.find? (fun p=>decide (p.1 = x)) with
  | none=>rw [hf] at h; simp at h
  | some p=>
    rw [hf] at h;simp at h;have c:=List.find?_some hf;have d:=List.mem_of_find?_eq_some hf;simp at c;obtain ⟨a,b⟩:=p;simp at c h;rw [← c,← h];exact d
theorem Yv {E : List (K × V)} {x : K} (h : lk E x = none) : ∀ p ∈ E,p.1 ≠ x:=fun p a e=>by
  unfold lk at h
  simp at h
  exact h p.1 p.2 a e
theorem Tu {E : List (K × V)} (a : (E.map (·.1)).Nodup) {x : K} {v : V} (h : (x,v) ∈ E) : lk E x = some v:=by
  induction E with
  | nil=>simp at h
  | cons p r ih=>
    obtain ⟨y,u⟩:=p;rw [Bl];simp only [List.map_cons,List.nodup_cons] at a
    rcases List.mem_cons.1 h with e | h
    · injection e with e1 e2
      rw [if_pos e1.symm,e2]
    rw [if_neg (fun e : y = x=>a.1 (by rw [e]; exact List.mem_map.2 ⟨_,h,rfl⟩))];exact ih a.2 h
theorem U6 {E : List (K × V)} {x : K} (h : lk E x = none) : strike E x = E:=by
  unfold strike;rw [List.filter_eq_self];intro p a
  simpa using Yv h p a
theorem Pd {E : List (K × V)} (a : (E.map (·.1)).Nodup) (x : K) : (strike E x).length + (if (lk E x).isSome then 1 else 0) = E.length:=by
  induction E with
  | nil=>rfl
  | cons p r ih=>
    obtain ⟨y,u⟩:=p;simp only [List.map_cons,List.nodup_cons] at a;rw [Bl];unfold strike;rw [List.filter_cons]
    by_cases h : y = x
    · subst h
      have b : lk r y = none:=by
        cases hl : lk r y with
        | none=>rfl
        | some v=>exact absurd (List.mem_map.2 ⟨_,Ni hl,rfl⟩) a.1
      have e:=U6 b;unfold strike at e;simp [e]
    have:=ih a.2;unfold strike at this;simp only [h,decide_false,Bool.not_false,if_true,if_false,List.length_cons];omega
theorem Ht {E : List (K × V)} (a : (E.map (·.1)).Nodup) (x : K) : ((strike E x).map (·.1)).Nodup:=a.sublist (List.Sublist.map _ List.filter_sublist)
theorem x1s {E : List (K × V)} (a : (E.map (·.1)).Nodup) (x : K) (v : V) : (((x,v) :: strike E x).map (·.1)).Nodup:=by
  rw [List.map_cons,List.nodup_cons];refine ⟨fun h=>?_,Ht a x⟩;obtain ⟨p,b,e⟩:=List.mem_map.1 h;exact Yv (Dq E x) p b e
end
variable {M : MT} [DecidableEq M.K] {P : Program} {w w' : World} {m : Nat} {E : List (M.K × M.V)} {t : TypeId}
def IsAss (M : MT) [DecidableEq M.K] (P : Program) (w : World) (m : Nat) (E : List (M.K × M.V)) : Prop:=
  (E.map (·.1)).Nodup ∧ (∀ p ∈ E, M.dom p.1) ∧ ∃ D : DataW Value, w.ownsMap P M.k RV m E.length D ∧ Maps.size D = E.length ∧ (∀ x, M.dom x → Maps.has D (M.kl x) = (lk E x).isSome) ∧
    (∀ x zd,M.dom x → D.atKey (M.kl x) zd = match lk E x with | some v=>.held (M.ev v) | none=>zd) ∧ ∀ l,Maps.has D l = true → ∃ x,M.dom x ∧ l = M.kl x
theorem IsAss.lt (h : IsAss M P w m E) : m < w.heap.size:=by obtain ⟨_,_,D,a,_⟩:=h; exact a.lt
theorem IsAss.made (M : MT) [DecidableEq M.K] (w : World) (P : Program) : IsAss M P (w.alloc (.map #[] 0)) w.heap.size []:=
  ⟨by simp,by simp,.map [],World.ownsMap_made w P M.k RV,rfl,fun _ _=>rfl,fun _ _ _=>rfl,fun l h=>by cases h⟩
theorem IsAss.of_block (h : IsAss M P w m E) (j : w'.heap[m]? = w.heap[m]?) : IsAss M P w' m E:=by
  obtain ⟨d,f,D,k,g⟩:=h;obtain ⟨c,a,b,F,l,i⟩:=k;exact ⟨d,f,D,⟨c,a,j.trans b,F,l,i⟩,g⟩
theorem IsAss.kept {L : List Nat} (h : IsAss M P w m E) (a : Kept L w w') (b : m ∉ L) : IsAss M P w' m E:=h.of_block (a.block m h.lt b)
theorem IsAss.z (h : IsAss M P w m E) (a : Kept [] w w') : IsAss M P w' m E:=h.kept a (by simp)
theorem Pe {v : Value} {d : DataW Value} {ps : List MemPlace} (h : RV v = some (d,ps)) {u : Value} (e : d = .held u) : v = u:=by
  unfold RV at h;subst e
  injection h with h
  injection h with h1 h2
  injection h1
theorem IsAss.look (h : IsAss M P w m E) (f : M.Ok P) (i : P.underlying t = some (.map M.k M.e)) {z : Value} (j : (zeroValue M.e).run P w = .ok z w) {x : M.K} (d : M.dom x) :
    (Instr.lookup t (.map (some m)) (M.kv x) false).run P w = .ok (match lk E x with | some v=>M.ev v | none=>z) w:=by
  obtain ⟨_,_,D,g,_,_,c,_⟩:=h;obtain ⟨v,l,a,b⟩:=g.lookup f.keyed i j (zd:=.held z) (zp:=[]) rfl (f.of x d);rw [c x _ d] at b;rw [a]
  congr 1
  cases hl : lk E x with
  | none=>rw [hl] at b; exact Pe b rfl
  | some u=>rw [hl] at b; exact Pe b rfl
theorem IsAss.look_ok (h : IsAss M P w m E) (g : M.Ok P) (j : P.underlying t = some (.map M.k M.e)) {z : Value} (l : (zeroValue M.e).run P w = .ok z w) {x : M.K} (f : M.dom x) :
    (Instr.lookup t (.map (some m)) (M.kv x) true).run P w = .ok (.tuple #[match lk E x with | some v=>M.ev v | none=>z,.bool (lk E x).isSome]) w:=by
  obtain ⟨_,_,D,i,_,a,d,_⟩:=h;obtain ⟨v,n,b,c⟩:=i.look_ok g.keyed j l (zd:=.held z) (zp:=[]) rfl (g.of x f);rw [d x _ f] at c;rw [b,a x f]
  congr 1
  congr 1
  cases hl : lk E x with
  | none=>rw [hl] at c; rw [Pe c rfl]
  | some u=>rw [hl] at c; rw [Pe c rfl]
theorem IsAss.put (h : IsAss M P w m E) (g : M.Ok P) (ht : P.underlying t = some (.map M.k M.e)) {x : M.K} (r : M.dom x) (v : M.V) (hE : E.length < maxLen) :
    ∃ w',(Instr.mapUpdate t (.map (some m)) (M.kv x) (M.ev v)).run P w = .ok () w' ∧ IsAss M P w' m ((x,v) :: strike E x) ∧ Kept [m] w w':=by
  obtain ⟨j,a0,D,u,hs,b,z,i⟩:=h;have a:=g.of x r;obtain ⟨w',o,a1,a3⟩:=u.store g.keyed ht hE a (val:=M.ev v) (d:=.held (M.ev v)) (ps:=[]) rfl;have s:=u.tidy g.keyed;have c:=Pd j x
  have q : Maps.size (D.put (M.kl x) (.held (M.ev v))) = ((x,v) :: strike E x).length:=by
    rw [Maps.size_put s,b x r,hs,List.length_cons]
    cases h1 : (lk E x).isSome <;> rw [h1] at c <;> simp at c ⊢ <;> omega
  have n : ∀ y,M.dom y → y ≠ x → M.kl y ≠ M.kl x:=fun y f h e=>h (g.inj y x f r e);refine ⟨w',o,⟨x1s j x v,?_,_,F2 a1 (by rw [q]; exact Nat.le_refl _),q,?_,?_,?_⟩,Dm a3⟩
  · intro p hp
    rcases List.mem_cons.1 hp with rfl | hp
    · exact r
    exact a0 p (List.mem_filter.1 hp).1
  · intro y f
    rw [Bl]
    by_cases e : x = y
    · subst e
      rw [if_pos rfl,Maps.has_put_same u.isMap (g.keyed.key a)]
      rfl
    rw [if_neg e,Maps.has_put_other (n y f (fun h=>e h.symm)),b y f,Av E (fun h=>e h.symm)]
  · intro y zd f
    rw [Bl]
    by_cases e : x = y
    · subst e
      rw [if_pos rfl,Maps.atKey_put_same u.isMap (g.keyed.key a)]
    rw [if_neg e,Maps.atKey_put_other (n y f (fun h=>e h.symm)),z y zd f,Av E (fun h=>e h.symm)]
  intro l hl
  by_cases e : l = M.kl x
  · exact ⟨x,r,e⟩
  rw [Maps.has_put_other e] at hl;exact i l hl
theorem IsAss.drop (h : IsAss M P w m E) (q : M.Ok P) (ht : P.underlying t = some (.map M.k M.e)) {x : M.K} (o : M.dom x) (ty : TypeId) :
    ∃ w',(Builtin.delete_ #[t,M.k] ty #[.map (some m),M.kv x]).run P w = .ok (.tuple #[]) w' ∧ IsAss M P w' m (strike E x) ∧ Kept [m] w w':=by
  obtain ⟨f,s,D,ho,hs,a,r,c⟩:=h;have d:=q.of x o;obtain ⟨w',i,u,v⟩:=ho.drop q.keyed ht d ty;have n:=ho.tidy q.keyed;have a0:=Pd f x
  have j : Maps.size (D.del (M.kl x)) = (strike E x).length:=by
    have:=Maps.size_del (k:=M.kl x) n;rw [a x o,hs] at this;omega
  have g : ∀ y,M.dom y → y ≠ x → M.kl y ≠ M.kl x:=fun y b h e=>h (q.inj y x b o e);refine ⟨w',i,⟨Ht f x,fun p hp=>s p (List.mem_filter.1 hp).1,_,F2 u (by rw [j]; exact Nat.le_refl _),j,?_,?_,?_⟩,Dm v⟩
  · intro y b
    by_cases e : y = x
    · subst e
      rw [Maps.has_del_same,Dq]
      rfl
    rw [Maps.has_del_other (g y b e),a y b,Av E e]
  · intro y zd b
    by_cases e : y = x
    · subst e
      rw [Maps.atKey_del_same,Dq]
    rw [Maps.atKey_del_other (g y b e),r y zd b,Av E e]
  intro l z
  by_cases e : l = M.kl x
  · exact ⟨x,o,e⟩
  rw [Maps.has_del_other e] at z;exact c l z
def InRange (M : MT) [DecidableEq M.K] (P : Program) (w : World) (m r : Nat) (E Rm : List (M.K × M.V)) (c : Nat) : Prop:=
  IsAss M P w m E ∧ (Rm.map (·.1)).Nodup ∧ (∀ p ∈ Rm, p ∈ E) ∧ ∃ (D : DataW Value) (left : Lit → Bool), w.ranges P M.k RV m r E.length D left c ∧
    (∀ x zd,M.dom x → D.atKey (M.kl x) zd = match lk E x with | some v=>.held (M.ev v) | none=>zd) ∧ (∀ x,M.dom x → left (M.kl x) = (lk Rm x).isSome) ∧ ∀ l,left l = true → ∃ x,M.dom x ∧ l = M.kl x
theorem IsAss.range (h : IsAss M P w m E) (y : M.Ok P) (v : P.underlying t = some (.map M.k M.e)) :
    ∃ w',(Instr.range t (.map (some m))).run P w = .ok (.pointer (some ⟨w.heap.size,0,none⟩)) w' ∧ InRange M P w' m w.heap.size E E E.length ∧ Kept [] w w' ∧ w'.heap.size = w.heap.size + 1:=by
  have n:=h;obtain ⟨g,o,D,r,u,c,f,a⟩:=h;obtain ⟨w',d,l,b,x⟩:=r.range y.keyed v;have j : Kept [] w w':=⟨b.os,b.tape,b.output,b.size,fun i q _=>b.block i q (by simp)⟩;rw [u] at l;exact ⟨w',d,⟨n.kept j (by simp),g,fun p s=>s,D,_,l,f,c,a⟩,j,x⟩
theorem InRange.next {r c : Nat} {j : List (M.K × M.V)} (h : InRange M P w m r E j c) (ok : M.Ok P) (ty : TypeId) (a3 : ∀ (v : Value) (l : Lit), keyOf P M.k v = some l → ∀ x, M.dom x → l = M.kl x → v = M.kv x) :
    (j = [] ∧ (Instr.next (.pointer (some ⟨r,0,none⟩)) false ty).run P w = .ok (.tuple #[.bool false]) w) ∨
    ∃ x v w' c',(x,v) ∈ j ∧ (Instr.next (.pointer (some ⟨r,0,none⟩)) false ty).run P w = .ok (.tuple #[.bool true,M.kv x,M.ev v]) w' ∧ InRange M P w' m r E (strike j x) c' ∧ c' < c ∧ Kept [r] w w' ∧ (Instr.entry (.pointer (some ⟨r,0,none⟩))).run P w' = .ok (.tuple #[M.kv x,M.ev v]) w':=by
  obtain ⟨ha,aa,n,D,ah,hr,a0,s,b⟩:=h
  rcases hr.next ok.keyed ty with ⟨_,h0,a⟩ | ⟨a7,v,l,y,w',c',f,a4,hv,hD,a,ab,hc,hg,hz,a1⟩
  · refine .inl ⟨?_, a⟩
    cases j with
    | nil=>rfl
    | cons p q=>
      have hd:=ha.2.1 p (n p (by simp));have:=s p.1 hd;rw [h0,Bl,if_pos rfl] at this;cases this
  obtain ⟨x,hx,rfl⟩:=b l a4;have hs:=s x hx;rw [a4] at hs
  cases hu : lk j x with
  | none=>rw [hu] at hs; cases hs
  | some u=>
    have g:=Ni hu;have hE : lk E x = some u:=Tu ha.1 (n _ g);have h1:=hD .nil;rw [a0 x _ hx,hE] at h1
    have a5 : v = M.ev u:=by
      obtain ⟨d,ps⟩:=y;exact Pe hv h1.symm
    have hk : Kept [r] w w':=⟨hg.os,hg.tape,hg.output,hg.size,fun i hi hn=>hg.block i hi (by simpa using hn)⟩;have ac : m ∉ [r]:=by have:=hr.ne; simpa using fun e=>this e.symm
    refine .inr ⟨x,u,w',c',g,by rw [a,a5,a3 a7 _ f x hx rfl],⟨ha.kept hk ac,Ht aa x,fun p hp=>n p (List.mem_filter.1 hp).1,D,_,ab,a0,?_,fun l s=>b l (by simp at s; exact s.1)⟩,hc,hk,by rw [a1,a5,a3 a7 _ f x hx rfl]⟩;intro z o;rw [s z o]
    by_cases e : z = x
    · subst e
      rw [Dq,WideAt.sameKey_self (ok.keyed.key (ok.of z o))]
      simp
    rw [Av j e,Maps.sameKey_ne (fun h=>e (ok.inj z x o hx h))]
    simp
end Go.Hub
namespace Go.Hub
open Go.RowKit Go.WideShapes Go.ChangeMaps Go.WideElems
open Go.Maps (Keyed)
open Go.WideMaps (KeyLaw)
section
variable {M : MT} [DecidableEq M.K] {P : Program} {ops : Array Oper} {rest : List Oper} {a : Act} {w : World} {Q : Exit → Act → World → Prop} {n d m : Nat} {l : FL} {dst : Option Nat} {ty : TypeId} {ps : String} {af : Array Edge} {gd : Option (Nat × Bool)} {x y z : Operand} {t : TypeId} {Sw : World → Prop} {K : Act → World → Prop} {E : List (M.K × M.V)}
theorem E.lookOkA (f : Fr n a l) (h : IsAss M P w m E) (q : M.Ok P) (i : P.underlying t = some (.map M.k M.e)) {c : Value} (p : ∀ w, (zeroValue M.e).run P w = .ok c w) (b : M.K) (g : M.dom b) (j : Ae l x = some (.map (some m))) (o : Ae l y = some (M.kv b)) :
    (execOp a.eval ⟨dst,.lookup t x y true,ty,ps,af,gd⟩).run P w = .ok (.value (.tuple #[match lk E b with | some v=>M.ev v | none=>c,.bool (lk E b).isSome])) w:=by
  simp only [execOp,f.ev j,f.ev o,Sem.run_bind,h.look_ok q i (p w) g,Result.andThen,Sem.run_pure]
  try rfl
theorem U7 (f : Fr n a l) {w' : World} {b u : Value} (c : Ae l x = some (.map (some m))) (g : Ae l y = some b) (i : Ae l z = some u) (h : (Instr.mapUpdate t (.map (some m)) b u).run P w = .ok () w') :
    (execOp a.eval ⟨dst,.mapUpdate t x y z,ty,ps,af,gd⟩).run P w = .ok .skip w':=by
  simp [execOp,f.ev c,f.ev g,f.ev i,h]
theorem O.mapPutA {q : Nat} (f : Fr n a l) (v : ops[q]? = some ⟨none, .mapUpdate t x y z, ty, ps, af, gd⟩) (hw : Region.wanted ⟨none, .mapUpdate t x y z, ty, ps, af, gd⟩ (yielded ops a.tmps) = true) (h : IsAss M P w m E) (ok : M.Ok P) (ht : P.underlying t = some (.map M.k M.e)) (b : M.K) (s : M.dom b) (u : M.V)
    (hx : Ae l x = some (.map (some m))) (hy : Ae l y = some (M.kv b)) (hz : Ae l z = some (M.ev u)) (p : E.length < maxLen) (g : ∀ w',IsAss M P w' m ((b,u) :: strike E b) → Kept [m] w w' → Sw w')
    (r : ∀ a' w',IsAss M P w' m ((b,u) :: strike E b) → Kept [m] w w' → Fr n a' l → K a' w') : wpOp P ops Q q (fun a w=>Sw w ∧ K a w) a w:=by
  obtain ⟨w',c,i,j⟩:=h.put ok ht s u p;exact O.act f v rfl hw (U7 f hx hy hz c) (g w' i j) fun a' o=>r a' w' i j o
theorem O.dropA {i : Nat} {o : Oper} {w' : World} {v : Value} (f : Fr n a l) (hi : ops[i]? = some o) (g : o.dst = none) (hw : Region.wanted o (yielded ops a.tmps) = true)
    (h : (execOp a.eval o).run P w = .ok (.value v) w') (c : Sw w') (b : ∀ a',Fr n a' l → K a' w') : wpOp P ops Q i (fun a w=>Sw w ∧ K a w) a w:=by
  unfold wpOp;simp only [hi,hw,if_true];refine .inl ?_;unfold Oper.wp;rw [h];simp only [Oper.upon,g];exact ⟨c,b _ (f.putNone v)⟩
theorem O.mapDropA {q : Nat} {k : TypeId} (f : Fr n a l) (u : ops[q]? = some ⟨none, .call { callee := .builtin .delete, args := #[x, y], argTypes := #[t, k] }, ty, ps, af, gd⟩) (hw : Region.wanted ⟨none, .call { callee := .builtin .delete, args := #[x, y], argTypes := #[t, k] }, ty, ps, af, gd⟩ (yielded ops a.tmps) = true) (h : IsAss M P w m E) (ok : M.Ok P) (ht : P.underlying t = some (.map M.k M.e)) (s : M.k = k) (b : M.K) (r : M.dom b)
    (hx : Ae l x = some (.map (some m))) (hy : Ae l y = some (M.kv b)) (g : ∀ w',IsAss M P w' m (strike E b) → Kept [m] w w' → Sw w')
    (p : ∀ a' w',IsAss M P w' m (strike E b) → Kept [m] w w' → Fr n a' l → K a' w') : wpOp P ops Q q (fun a w=>Sw w ∧ K a w) a w:=by
  subst s;obtain ⟨w',c,i,j⟩:=h.drop ok ht r ty;exact O.dropA (v:=.tuple #[]) f u rfl hw (by simp [execOp,resolve,invoke,builtin,f.ev hx,f.ev hy,c]) (g w' i j) fun a' o=>p a' w' i j o
def Ent (M : MT) [DecidableEq M.K] (P : Program) (t : TypeId) (w : World) (m : Nat) (E : List (M.K × M.V)) (key : M.K) (st : Nat) : Prop:=
  m < w.heap.size ∧ ∀ (w2 : World) (u : M.V),w2.heap[m]? = w.heap[m]? → ∃ w3,(Instr.entryStore t (.map (some m)) (goInt st) (M.ev u)).run P w2 = .ok () w3 ∧ IsAss M P w3 m ((key,u) :: strike E key) ∧ Kept [m] w2 w3
theorem IsAss.entry (h : IsAss M P w m E) (ok : M.Ok P) (KL : KeyLaw P M.k) (ht : P.underlying t = some (.map M.k M.e)) {zv : Value} (hz : ∀ w, (zeroValue M.e).run P w = .ok zv w) {i : M.K} (hd : M.dom i) (hE : E.length < maxLen) :
    ∃ v0,∃ st : Nat,∃ w',(Instr.mapEntry t (.map (some m)) (M.kv i)).run P w = .ok (.tuple #[v0,goInt st]) w' ∧ Kept [m] w w' ∧ Ent M P t w' m E i st:=by
  have h0:=h;obtain ⟨aa,a9,D,ho,hs,a0⟩:=h;obtain ⟨es,o,s,F,ac,hD⟩:=ho;obtain ⟨v0,st,f,b,r,_,a1⟩:=entry_then_store KL ht hz s F (ok.of i hd);have q : (setBlock w m (.map f b)).heap[m]? = some (.map f b):=heap_setBlock_same s _;refine ⟨v0,st,_,r,Dm ⟨es,o,f,b,s,rfl⟩,(Array.getElem?_eq_some_iff.1 q).1,fun w2 u g=>?_⟩;rw [q] at g;obtain ⟨v,c,r1,r2⟩:=a1 w2 (M.ev u) g;obtain ⟨w',j,p,_⟩:=h0.put ok ht hd u hE;rw [r2] at j
  injection j with _ e
  subst e;refine ⟨_,r1,p.of_block ?_,Dm ⟨f,b,v,c,g,rfl⟩⟩;rw [heap_setBlock_same g,heap_setBlock_same s]
theorem O.entryStoreA {q : Nat} (f : Fr n a l) {s : Operand} (r : ops[q]? = some ⟨none, .entryStore t x s z, ty, ps, af, gd⟩) (hw : Region.wanted ⟨none, .entryStore t x s z, ty, ps, af, gd⟩ (yielded ops a.tmps) = true) {b : M.K} {k : Nat} (h : Ent M P t w m E b k) (u : M.V)
    (hx : Ae l x = some (.map (some m))) (v : Ae l s = some (.int .i64 (k : Nat))) (hz : Ae l z = some (M.ev u)) (g : ∀ w',IsAss M P w' m ((b,u) :: strike E b) → Kept [m] w w' → Sw w')
    (p : ∀ a' w',IsAss M P w' m ((b,u) :: strike E b) → Kept [m] w w' → Fr n a' l → K a' w') : wpOp P ops Q q (fun a w=>Sw w ∧ K a w) a w:=by
  obtain ⟨w',c,i,j⟩:=h.2 w u rfl;exact O.act f r rfl hw (by simp only [goInt] at c; simp [execOp,f.ev hx,f.ev v,f.ev hz,c]) (g w' i j) fun a' o=>p a' w' i j o
theorem L.rangeA (f : Fr n a l) (hw : Region.wanted ⟨some d, .range t x, ty, ps, af, gd⟩ (yielded ops a.tmps) = true) (j : d < n) (h : IsAss M P w m E) (q : M.Ok P) (o : P.underlying t = some (.map M.k M.e)) (p : Ae l x = some (.map (some m)))
    (i : ∀ a' w' g,InRange M P w' m g E E E.length → Kept [] w w' → w.heap.size ≤ g → Fr n a' ((d,.pointer (some ⟨g,0,none⟩)) :: l) → wpList P ops Q rest a' w') : wpList P ops Q (⟨some d,.range t x,ty,ps,af,gd⟩ :: rest) a w:=by
  obtain ⟨w',b,r,s,_⟩:=h.range q o;exact L.val f hw rfl j (by simp [execOp,f.ev p,b]) fun a' c=>i a' w' _ r s (Nat.le_refl _) c
theorem L.nextA (f : Fr n a l) (hw : Region.wanted ⟨some d, .next x false, ty, ps, af, gd⟩ (yielded ops a.tmps) = true) (s : d < n) {r c : Nat} {i : List (M.K × M.V)} (h : InRange M P w m r E i c) (ok : M.Ok P) (q : ∀ (v : Value) (l : Lit), keyOf P M.k v = some l → ∀ x, M.dom x → l = M.kl x → v = M.kv x) (hx : Ae l x = some (.pointer (some ⟨r, 0, none⟩)))
    (o : i = [] → ∀ a',Fr n a' ((d,.tuple #[.bool false]) :: l) → wpList P ops Q rest a' w)
    (p : ∀ key u a' w' c',(key,u) ∈ i → InRange M P w' m r E (strike i key) c' → c' < c → Kept [r] w w' → (Instr.entry (.pointer (some ⟨r,0,none⟩))).run P w' = .ok (.tuple #[M.kv key,M.ev u]) w' → Fr n a' ((d,.tuple #[.bool true,M.kv key,M.ev u]) :: l) → wpList P ops Q rest a' w') : wpList P ops Q (⟨some d,.next x false,ty,ps,af,gd⟩ :: rest) a w:=by
  rcases h.next ok ty q with ⟨h0,b⟩ | ⟨key,u,w',c',hm,b,h1,hc,hk,g⟩
  · exact L.val f hw rfl s (by simp [execOp,f.ev hx,b]) fun a' j=>o h0 a' j
  exact L.val f hw rfl s (by simp [execOp,f.ev hx,b]) fun a' j=>p key u a' w' c' hm h1 hc hk g j
theorem E.entryA (f : Fr n a l) {r : Nat} {k v : Value} (h : (Instr.entry (.pointer (some ⟨r,0,none⟩))).run P w = .ok (.tuple #[k,v]) w) (b : Ae l x = some (.pointer (some ⟨r,0,none⟩))) : (execOp a.eval ⟨dst,.entry x,ty,ps,af,gd⟩).run P w = .ok (.value (.tuple #[k,v])) w:=by
  simp [execOp,f.ev b,h]
end
end Go.Hub
namespace Go.Proofs.YtkdeedhjkjffpaaGreat
open Go.RowKit Go.Hub
def y6r (_ : World) : Prop:=True
def Glob (w : World) : Prop:=y6r w ∧ True
theorem Glob.kept {w w' : World} (h : Glob w) (_ : Kept [] w w') : Glob w':=⟨trivial,trivial⟩
theorem x1t (w : World) : Glob w:=⟨trivial,trivial⟩
def y2h (r : Int) : Bool:=decide (r = 43) || decide (r = 35)
def Dv (s : ByteArray) (c : UInt8) : Bool:=s.toList.contains c
def Yw (s p : ByteArray) : Bool:=decide (p.size ≤ s.size) && decide (s.extract 0 p.size = p)
theorem I2 (s : ByteArray) (j : Nat) : s[j]? = s.data[j]?:=by
  by_cases h : j < s.size
  · rw [getElem?_pos s j h,Array.getElem?_eq_getElem (xs:=s.data) h]; rfl
  rw [getElem?_neg s j h,Array.getElem?_eq_none (xs:=s.data) (by simpa using h)]
theorem y3p {s : ByteArray} {c : UInt8} {k : Nat} (i : ∀ j b,j < k → s[j]? = some b → b ≠ c) (h : s.size ≤ k) : Dv s c = false:=by
  unfold Dv;rw [List.contains_eq_mem];simp only [decide_eq_false_iff_not];intro d;rw [ByteArray.toList_eq] at d;obtain ⟨j,a,f⟩:=List.getElem_of_mem d;have g : j < s.size:=by simpa using a
  refine i j c (by omega) ?_ rfl;rw [I2,← Array.getElem?_toList,List.getElem?_eq_getElem a,f]
theorem x9s {s : ByteArray} {c : UInt8} {k : Nat} {b : UInt8} (a : s[(k : Int).toNat]? = some b) (h : ((b.toNat : Nat) : Int) = ((c.toNat : Nat) : Int)) : Dv s c = true:=by
  have e : b = c:=UInt8.toNat_inj.1 (by omega);subst e;unfold Dv;rw [List.contains_eq_mem,ByteArray.toList_eq];rw [Int.toNat_natCast,I2,← Array.getElem?_toList] at a
  simpa using List.mem_of_getElem? a
theorem x5e {s : ByteArray} {c : UInt8} {k : Nat} {b : UInt8} (g : ∀ j b,j < k → s[j]? = some b → b ≠ c) (f : s[k]? = some b) (h : ¬ ((b.toNat : Nat) : Int) = ((c.toNat : Nat) : Int)) : ∀ j b,j < k + 1 → s[j]? = some b → b ≠ c:=by
  intro j d i a
  by_cases e : j = k
  · subst e
    rw [f] at a;cases a;exact fun e=>h (by rw [e])
  exact g j d (by omega) a
theorem Ki (s : ByteArray) (c : UInt8) (w : World) (z : s.size ≤ 1000000) : Calls Tryz.prog 61 #[.string s,.int .u8 c.toNat] w (fun e w'=>w = w' ∧ e = .returned (.bool (Dv s c))):=by
 refine Bw Tryz.func61 Tryz.ntmps61 fun _ f=>?_;refine pr f fun _ f=>?_;refine wp_seq_k fun _ x=>?_;refine pr f fun _ f=>?_;refine wp_block ?_;refine C.loop (fun r a W=>w = W ∧ ∃ k : Nat,k + r = s.size ∧ (∀ j b,j < k → s[j]? = some b → b ≠ c) ∧ Fr 17 a [(0,.string s),(1,.int .u8 c.toNat),(5,.int .i64 k)]) (s.size) ?_ ?_
 ·exact ⟨rfl,0,by omega,by omega,f.sub (sx (sx (sx sn)))⟩
 intro i _ w1 u q h;obtain ⟨v,k,y,p,d⟩:=u;subst v
 try clear f
 refine wp_seq_k fun _ m=>C.sk fun _ n=>?_;refine L.s d fun _ f=>?_;refine L.s f fun _ f=>?_;refine L.va f (E.lenS f U9 rfl) fun _ f=>?_;refine pe f n fun _ f=>?_;refine f.sD 9 rfl (fun t f=>?_) (fun t f=>?_)
 ·obtain ⟨b,o⟩ : ∃ b,s[k]? = some b:=⟨s[k]'(by omega),getElem?_pos s k (by omega)⟩;refine C.cT f rfl ?_;refine wp_skip (m _ _ ?_);have d:=f.pk [0,1,5,6,7,8,9];refine wp_seq_k fun _ m=>?_;refine wp_block ?_;refine C.sk fun _ n=>?_;(iterate 2 refine L.s d fun _ d=>?_);refine L.va d (E.indexS d U9 rfl rfl (by omega) (by assumption)) fun _ d=>?_;refine pe d n fun _ d=>?_;refine C.sp d (fun l d=>?_) (fun l d=>?_)
  ·have g:=l;refine rt d ?_;exact ⟨rfl,by rw [x9s o g]⟩
  have g:=l;refine wp_skip (m _ _ ?_);refine C.region ?_;(iterate 3 refine L.s d fun _ d=>?_);refine wpList_nil (h _ _ (i - 1) ?_ ?_)
  ·omega
  exact ⟨rfl,k + 1,by omega,x5e p o g,d.sub (sx (sx (sx sn)))⟩
 refine C.cF f rfl ?_;refine wp_exit (x _ _ ?_);have f:=f.sub sn;refine rt f ?_;exact ⟨rfl,by rw [y3p p (by omega)]⟩
end Go.Proofs.YtkdeedhjkjffpaaGreat
namespace Go.Proofs.YtkdeedhjkjffpaaGreat
open Go.RowKit Go.Hub
def Ss (w : World) (A : Option Addr) (l : List ByteArray) : Prop:=Sl w A l.length 1 (l.map .string)
def Sk (A : Option Addr) (c : Nat) : Option Addr:=if c = 1 then A else A.map (·.add 1)
section
variable {w w' : World} {A : Option Addr} {l : List ByteArray} {x : ByteArray} {b off k c : Nat}
theorem Ss.kept (h : Ss w A l) (a : Kept [] w w') : Ss w' A l:=Sl.kept h a
theorem Ss.addr (h : Ss w A l) (a : k < l.length) : ∃ b off,A = some ⟨b,off,none⟩:=Sl.addr h (by omega)
theorem Hu (h : Ss w A l) (d : A = some ⟨b,off,none⟩) (a : l[k]? = some x) : w.cell? ⟨b,off + Int.toNat (k : Int) * 1,none⟩ = some (.string x):=by
  have f:=(List.getElem?_eq_some_iff.1 a).1;rw [Int.toNat_natCast,Nat.mul_one];exact Sl.cell h (by omega) d (by simp [a])
theorem Kj (h : Ss w A l) (a : A = some ⟨b,off,none⟩) (d : l[0]? = some x) : w.cell? ⟨b,off + Int.toNat 0 * 1,none⟩ = some (.string x):=Hu h a d
theorem Ss.nil (w : World) (A : Option Addr) : Ss w A []:=Sl.nil w A 1
theorem Ss.tail (h : Ss w A l) (f : l.length ≤ c) : Ss w (Sk A c) (l.drop 1):=by
  unfold Sk
  match l with
  | []=>exact Ss.nil _ _
  | x :: l=>
    by_cases e : c = 1
    · have : l = []:=by
        simp at f;exact List.eq_nil_of_length_eq_zero (by omega)
      subst this;exact Ss.nil _ _
    rw [if_neg e];refine ⟨by simp,fun m=>?_⟩;obtain ⟨b,off,a,d,g⟩:=h.2 (by simp);refine ⟨b,off + 1,by rw [a]; rfl,d,fun j u i=>?_⟩;rw [Nat.add_assoc,Nat.add_comm 1 j];exact g (j + 1) u (by simpa using i)
end
def Gg : List ByteArray → List ByteArray → Bool
  | [],t=>decide (((t.length : Nat) : Int) = 0)
  | x :: f,t=>decide (x = ⟨#[35]⟩) || match t with
    | []=>false
    | y :: t=>(decide (x = ⟨#[43]⟩) || decide (x = y)) && Gg f t
section
variable {us vs : List ByteArray} {x y : ByteArray}
theorem x5f {l : List ByteArray} (h : l.length = 0) : l = []:=List.eq_nil_of_length_eq_zero h
theorem Nj {l : List ByteArray} (h : l[0]? = some x) : l = x :: l.drop 1:=by
  match l with
  | []=>simp at h
  | a :: r=>simp at h; simp [h]
theorem x5g (h : us.length = 0) : Gg us vs = decide (((vs.length : Nat) : Int) = 0):=by rw [x5f h]; rfl
theorem x1u (a : us[0]? = some x) (h : x = ⟨#[35]⟩) : Gg us vs = true:=by rw [Nj a]; cases vs <;> simp [Gg,h]
theorem x5h (b : us[0]? = some x) (h : ¬ x = ⟨#[35]⟩) (a : vs.length = 0) : Gg us vs = false:=by rw [Nj b,x5f a,Gg]; simp [h]
theorem Mm (a : us[0]? = some x) (b : vs[0]? = some y) (h : ¬ x = ⟨#[35]⟩) : Gg us vs = ((decide (x = ⟨#[43]⟩) || decide (x = y)) && Gg (us.drop 1) (vs.drop 1)):=by
  conv=>lhs; rw [Nj a,Nj b,Gg]
  simp [h]
theorem Sm (h : us.length = 0) : Gg us vs = decide (((us.length : Nat) : Int) = vs.length):=by
  rw [x5g h,h];exact decide_eq_decide.2 (by omega)
theorem x5i (b : us[0]? = some x) (h : ¬ x = ⟨#[35]⟩) (a : vs.length = 0) : Gg us vs = decide (((us.length : Nat) : Int) = vs.length):=by
  have:=(List.getElem?_eq_some_iff.1 b).1;rw [x5h b h a,a];exact (decide_eq_false (by omega)).symm
end
theorem U8 (h j : List ByteArray) (A o : Option Addr) (c l : Nat) (w : World) (u : Ss w A h) (A2 : Ss w o j) (hc : h.length ≤ c) (a1 : j.length ≤ l) (hl : h.length ≤ 1000000) (av : j.length ≤ 1000000) (ih : ∀ (us' vs' : List ByteArray) (A o : Option Addr) (c l : Nat) (w : World),us'.length < h.length → Ss w A us' → Ss w o vs' → us'.length ≤ c → vs'.length ≤ l → us'.length ≤ 1000000 → vs'.length ≤ 1000000 → Calls Tryz.prog 90 #[.slice A us'.length c,.slice o vs'.length l] w (fun e w'=>Kept [] w w' ∧ e = .returned (.bool (Gg us' vs')))) : Calls Tryz.prog 90 #[.slice A h.length c,.slice o j.length l] w (fun e w'=>Kept [] w w' ∧ e = .returned (.bool (Gg h j))):=by
 have d : Kept [] w w:=Kept.refl [] w;refine Bw Tryz.func90 Tryz.ntmps90 fun _ f=>?_;refine pr f fun _ f=>?_;refine wp_seq_k fun _ k1=>C.sk fun _ k2=>?_;(iterate 4 refine L.s f fun _ f=>?_);refine f.sD 8 rfl (fun h0 f=>?_) (fun h0 f=>?_)
 ·obtain ⟨x,n⟩ : ∃ x,h[0]? = some x:=⟨h[0]'(by omega),List.getElem?_eq_getElem _⟩;obtain ⟨b1,o1,hA⟩:=u.addr (k:=0) (by omega);refine L.s f fun _ a=>?_;refine L.s a fun _ a=>?_;refine L.lo a (Kj (u.kept d) hA n) fun _ a=>?_;refine pe a k2 fun _ a=>?_;refine C.sp a (fun h1 a=>?_) (fun h1 a=>?_)
  ·have g:=h1;refine rt a ?_;exact ⟨d,by rw [x1u n (by simpa using g)]⟩
  have g:=h1;refine wp_skip (k1 _ _ ?_);refine wp_seq_k fun _ k3=>C.sk fun _ k4=>?_;(iterate 4 refine L.s a fun _ a=>?_);refine a.sD 17 rfl (fun h2 a=>?_) (fun h2 a=>?_)
  ·have v:=h2;refine L.rn a fun _ b=>?_;refine wn k4 ?_;have b:=b.sub (sv 21 (.bool true) (Ft b [0,1,4]));refine C.cT b rfl ?_;refine rt b ?_;exact ⟨d,by rw [Sm (by omega)]⟩
  have v:=h2;refine pe a k4 fun _ a=>?_;refine a.sD 21 rfl (fun h3 a=>?_) (fun h3 a=>?_)
  ·have a9:=h3;refine C.cT a rfl ?_;refine rt a ?_;exact ⟨d,by rw [x5i n g (by omega)]⟩
  have a9:=h3;obtain ⟨y,hy⟩ : ∃ y,j[0]? = some y:=⟨j[0]'(by omega),List.getElem?_eq_getElem _⟩;obtain ⟨b2,o2,ag⟩:=A2.addr (k:=0) (by omega);refine C.cF a rfl ?_;refine wp_skip (k3 _ _ ?_);refine wp_seq_k fun _ k3=>?_;refine R.begin (S:=fun W=>Kept [] w W) (by kernel_rfl) (by exact (Kept.refl _ _).drewN 1) ?_;have s:=dk w 1;have ah:=dk w 1;obtain ⟨w1,m⟩ : ∃ W,W = w.drewN 1:=⟨_,rfl⟩;rw [← m] at s ah ⊢;clear m;have ar:=s.size;refine rq [0,1] a fun _ a=>?_;refine R.t 2 a rfl s (fun W hW=>(E.load a U9 rfl rfl (Kj (u.kept (d.z hW)) hA n))) fun _ a=>?_;refine rq [3,4] a fun _ a=>?_;refine a.sD 31 rfl (fun h4 a=>?_) (fun h4 a=>?_)
  ·have ab:=h4;refine R.ts 5 a rfl s a.nF fun _ b=>?_;refine R.ts 6 b rfl s b.nF fun _ b=>?_;refine R.ts 7 b rfl s b.nF fun _ b=>?_;refine R.ts 8 b rfl s b.nF fun _ b=>?_;refine R.ts 9 b rfl s b.nF fun _ b=>?_;refine R.ts 10 b rfl s b.nF fun _ b=>?_;refine R.ts 11 b rfl s b.nF fun _ b=>?_;refine rq [12,13,14] b fun _ b=>?_;refine R.p 15 b rfl s (E.slLlo b U46 Z2 rfl rfl (by omega) (by omega) ) (hw:=b.y) fun _ b=>?_;refine rq [16] b fun _ b=>?_;refine R.p 17 b rfl s (E.slLlo b U46 Z2 rfl rfl (by omega) (by omega) ) (hw:=b.y) fun _ b=>?_;replace b:=b.as (i:=42) (v':=.slice (Sk A c) (h.drop 1).length (c - 1)) rfl (by rw [List.length_drop]; rfl);replace b:=b.as (i:=44) (v':=.slice (Sk o l) (j.drop 1).length (l - 1)) rfl (by rw [List.length_drop]; rfl);refine R.call 18 b rfl rfl (by decide) (by kernel_rfl) b.y (Bm b Tryz.call90) (ih (h.drop 1) (j.drop 1) _ _ _ _ w1 (by rw [List.length_drop]; omega) ((u.kept (d.z s)).tail hc) ((A2.kept (d.z s)).tail a1) (by rw [List.length_drop]; omega) (by rw [List.length_drop]; omega) (by rw [List.length_drop]; omega) (by rw [List.length_drop]; omega)) ?_;rintro e w2 ⟨q,rfl⟩;replace s:=s.trans q (by simp);refine ⟨_,rfl,s,fun _ b=>?_⟩;have a3:=q.size;clear q;refine rq [19,20] b fun _ b=>?_;have r:=s.size;replace d:=d.z s;clear s;refine R.dn k3 ?_;refine Gc b ?_
   exact ⟨d,by rw [Mm n hy g]; simp [*]⟩
  have ab:=h4;refine rq [5,6] a fun _ a=>?_;refine R.t 7 a rfl s (fun W hW=>(E.load a U9 rfl rfl (Kj (u.kept (d.z hW)) hA n))) (hw:=a.y) fun _ a=>?_;refine rq [8,9] a fun _ a=>?_;refine R.t 10 a rfl s (fun W hW=>(E.load a U9 rfl rfl (Kj (A2.kept (d.z hW)) ag hy))) (hw:=a.y) fun _ a=>?_;refine rq [11,12,13] a fun _ a=>?_;refine a.sD 40 rfl (fun h5 a=>?_) (fun h5 a=>?_)
  ·have ad:=h5;refine rq [14] a fun _ b=>?_;refine R.p 15 b rfl s (E.slLlo b U46 Z2 rfl rfl (by omega) (by omega) ) (hw:=b.y) fun _ b=>?_;refine rq [16] b fun _ b=>?_;refine R.p 17 b rfl s (E.slLlo b U46 Z2 rfl rfl (by omega) (by omega) ) (hw:=b.y) fun _ b=>?_;replace b:=b.as (i:=42) (v':=.slice (Sk A c) (h.drop 1).length (c - 1)) rfl (by rw [List.length_drop]; rfl);replace b:=b.as (i:=44) (v':=.slice (Sk o l) (j.drop 1).length (l - 1)) rfl (by rw [List.length_drop]; rfl);refine R.call 18 b rfl rfl (by decide) (by kernel_rfl) b.y (Bm b Tryz.call90) (ih (h.drop 1) (j.drop 1) _ _ _ _ w1 (by rw [List.length_drop]; omega) ((u.kept (d.z s)).tail hc) ((A2.kept (d.z s)).tail a1) (by rw [List.length_drop]; omega) (by rw [List.length_drop]; omega) (by rw [List.length_drop]; omega) (by rw [List.length_drop]; omega)) ?_;rintro e w2 ⟨q,rfl⟩;replace s:=s.trans q (by simp);refine ⟨_,rfl,s,fun _ b=>?_⟩;have a3:=q.size;clear q;refine rq [19,20] b fun _ b=>?_;have r:=s.size;replace d:=d.z s;clear s;refine R.dn k3 ?_;refine Gc b ?_;exact ⟨d,by rw [Mm n hy g]; simp [*]⟩
  have ad:=h5;refine R.ts 14 a rfl s a.nT fun _ a=>?_;refine R.ts 15 a rfl s a.nT fun _ a=>?_;refine R.ts 16 a rfl s a.nT fun _ a=>?_;refine R.ts 17 a rfl s a.nT fun _ a=>?_;refine R.ts 18 a rfl s a.nT fun _ a=>?_;refine rq [19,20] a fun _ a=>?_;have ai:=s.size;replace d:=d.z s;clear s;refine R.dn k3 ?_;refine Gc a ?_;exact ⟨d,by rw [Mm n hy g]; simp [*]⟩
 have h8:=h0;refine L.rn f fun _ f=>?_;refine wn k2 ?_;have f:=f.sub (sv 13 (.bool false) (Ft f [0,1,4]));refine C.cF f rfl ?_;refine wp_skip (k1 _ _ ?_);refine wp_seq_k fun _ _=>C.sk fun _ k1=>?_;(iterate 4 refine L.s f fun _ f=>?_);refine f.sD 17 rfl (fun h6 a=>?_) (fun h6 a=>?_)
 ·have v:=h6;refine L.rn a fun _ a=>?_;refine wn k1 ?_;have a:=a.sub (sv 21 (.bool true) (Ft a [0,1,4]));refine C.cT a rfl ?_;refine rt a ?_;exact ⟨d,by rw [Sm (by omega)]⟩
 clear f
 exfalso
 omega
theorem M6 (a b : List ByteArray) (A d : Option Addr) (c f : Nat) (w : World) (l : Ss w A a) (m : Ss w d b) (u : a.length ≤ c) (i : b.length ≤ f) (v : a.length ≤ 1000000) (j : b.length ≤ 1000000) :
    Calls Tryz.prog 90 #[.slice A a.length c,.slice d b.length f] w (fun e w'=>Kept [] w w' ∧ e = .returned (.bool (Gg a b))):=by
  generalize x : a.length = n
  induction n using Nat.strongRecOn generalizing a b A d c f w with
  | _ n ih=>
    subst x;exact U8 a b A d c f w l m u i v j fun g k A d c f w h o p q r s t=>ih g.length h g k A d c f w o p q r s t rfl
end Go.Proofs.YtkdeedhjkjffpaaGreat
namespace Go.Proofs.YtkdeedhjkjffpaaGreat
open Go.RowKit Go.Hub
def Yx (b : UInt8) : Bool:=y2h b.toNat
def Xd (s : ByteArray) : Bool:=s.toList.any Yx
end Go.Proofs.YtkdeedhjkjffpaaGreat
namespace Go.Proofs.YtkdeedhjkjffpaaGreat
open Go.RowKit Go.Hub Go.Lib
def Ik (s : ByteArray) : Bool:=decide (0 < s.size) && (decide (s.size ≤ 65535) && decide (chk s.toList < 0))
theorem y3q {s : ByteArray} (a : 0 < s.size) (b : s.size ≤ 65535) : Ik s = decide (chk s.toList < 0):=by simp [Ik,a,b]
theorem x5j {s : ByteArray} (h : ¬ (0 < s.size ∧ s.size ≤ 65535)) : Ik s = false:=by
  unfold Ik
  by_cases a : 0 < s.size
  · rw [decide_eq_false (p:=s.size ≤ 65535) (by omega)]; simp
  rw [decide_eq_false a]; rfl
theorem Sn (s : ByteArray) (w : World) (r : y6r w) (t : s.size ≤ 1000000) : Calls Tryz.prog 60 #[.string s] w (fun e w'=>Kept [] w w' ∧ e = .returned (.bool (Ik s))):=by
 have d : Kept [] w w:=Kept.refl [] w;refine Bw Tryz.func60 Tryz.ntmps60 fun _ f=>?_;refine pr f fun _ f=>?_;refine C.sk fun _ k=>?_;refine L.s f fun _ f=>?_;refine L.va f (E.lenS f U9 rfl) fun _ f=>?_;(iterate 2 refine L.s f fun _ f=>?_);refine f.sD 6 rfl (fun h f=>?_) (fun h f=>?_)
 ·have p:=h;refine L.s f fun _ a=>?_;refine L.va a (E.lenS a U9 rfl) (hw:=a.y) fun _ a=>?_;(iterate 3 refine L.s a fun _ a=>?_);refine a.sD 11 rfl (fun i a=>?_) (fun i a=>?_)
  ·have j:=i;refine L.s a fun _ b=>?_;refine L.convSB b b.y (by decide) U9 U33 U5 rfl (by omega) fun _ m o b g n c=>?_;have l:=c.size;replace d:=d.z c;clear c;refine L.cl b (Dt b Tryz.call87) (Uv [5] m.heap.size _ o s.toList m n g.1 g.2) ?_ (hw:=b.y);rintro e q ⟨rfl,rfl⟩;refine ⟨_,rfl,fun _ b=>?_⟩;refine re b k ?_;exact ⟨d,by rw [y3q (by omega) (by omega)]⟩
  have j:=i;refine L.skip a a.nT rfl (by decide) fun _ a=>?_;refine L.skip a a.nT rfl (by decide) fun _ a=>?_;refine L.rn a fun _ a=>?_;have a:=a.sub (sv 2 (.bool false) sn);refine wn k ?_;refine Gc a ?_;exact ⟨d,by rw [x5j (by omega)]⟩
 have p:=h;refine L.skip f f.nT rfl (by decide) fun _ f=>?_;refine L.skip f f.nT rfl (by decide) fun _ f=>?_;refine L.skip f f.nT rfl (by decide) fun _ f=>?_;(iterate 2 refine L.s f fun _ f=>?_);refine L.skip f f.nT rfl (by decide) fun _ f=>?_;refine L.skip f f.nT rfl (by decide) fun _ f=>?_;refine L.rn f fun _ f=>?_;have f:=f.sub (sv 2 (.bool false) sn);refine wn k ?_;refine Gc f ?_;exact ⟨d,by rw [x5j (by omega)]⟩
end Go.Proofs.YtkdeedhjkjffpaaGreat
namespace Go.Proofs.YtkdeedhjkjffpaaGreat
open Go.RowKit Go.Hub Go.Lib Go.Shelf
def y2i : ByteArray:=⟨#[47]⟩
def Aj (s : ByteArray) : List ByteArray:=Lib.splitB y2i 0 (Lib.countB s y2i) s
def x9t (s : ByteArray) (w : World) (e : Ending) (w' : World) : Prop:=Kept [] w w' ∧ ∃ A c,e = .returned (.slice A (Aj s).length c) ∧ Ss w' A (Aj s) ∧ (Aj s).length ≤ c ∧ 1 ≤ (Aj s).length ∧ (Aj s).length ≤ s.size + 1
end Go.Proofs.YtkdeedhjkjffpaaGreat
namespace Go.Proofs.YtkdeedhjkjffpaaGreat
open Go.RowKit Go.Hub Go.Lib
def He (s : ByteArray) : Bool:=Ik s && !Xd s
theorem Nk (s : ByteArray) : Xd s = (Dv s 43 || Dv s 35):=by
  unfold Xd Dv
  induction s.toList with
  | nil=>rfl
  | cons b l ih=>
    rw [List.any_cons,ih,List.contains_cons,List.contains_cons]
    have a : Yx b = (43 == b || 35 == b):=by
      unfold Yx y2h
      have e : ∀ c : UInt8,(c == b) = decide (((b.toNat : Nat) : Int) = c.toNat):=fun c=>by
        by_cases h : c = b
        · subst h; simp
        have : ¬ ((b.toNat : Nat) : Int) = c.toNat:=fun d=>h (UInt8.toNat_inj.1 (by omega)).symm;simp [h,this]
      rw [e 43,e 35]
      rfl
    rw [a]
    cases (43 == b) <;> cases (35 == b) <;> cases (List.contains l 43) <;> cases (List.contains l 35) <;> rfl
theorem So (s : ByteArray) (w : World) (G : Glob w) (i : s.size ≤ 1000000) : Calls Tryz.prog 27 #[.string s] w (fun e w'=>Kept [] w w' ∧ e = .returned (.bool (He s))):=by
 have c : Kept [] w w:=Kept.refl [] w;refine Bw Tryz.func27 Tryz.ntmps27 fun _ f=>?_;refine pr f fun _ f=>?_;refine C.sk fun _ k=>?_;refine L.s f fun _ f=>?_;refine L.cl f (Dt f Tryz.call60) (Sn s w (G.kept c).1 i) ?_;rintro e n ⟨q,rfl⟩;refine ⟨_,rfl,fun _ f=>?_⟩;have l:=q.size;replace c:=c.z q;clear q;refine L.s f fun _ f=>?_;refine f.split 5 rfl (fun d f=>?_) (fun d f=>?_)
 ·have m:=d;refine L.s f fun _ a=>?_;refine L.cl a (Bm a Tryz.call61) (Ki s 43 _ i) ?_ (hw:=a.y);rintro e j ⟨rfl,rfl⟩;refine ⟨_,rfl,fun _ a=>?_⟩;(iterate 3 refine L.s a fun _ a=>?_);refine a.sB 10 rfl (fun g a=>?_) (fun g a=>?_)
  ·have h:=g;refine L.s a fun _ b=>?_;refine L.cl b (Bm b Tryz.call61) (Ki s 35 _ i) ?_ (hw:=b.y);rintro e j ⟨rfl,rfl⟩;refine ⟨_,rfl,fun _ b=>?_⟩;refine re b k ?_;exact ⟨c,by unfold He; rw [Nk]; simp [*]⟩
  have h:=g;refine L.rn a fun _ a=>?_;have a:=a.sub (sv 2 (.bool false) sn);refine wn k ?_;refine Gc a ?_;exact ⟨c,by unfold He; rw [Nk]; simp [*]⟩
 have m:=d;refine L.rn f fun _ f=>?_;have f:=f.sub (sv 2 (.bool false) sn);refine wn k ?_;refine Gc f ?_;exact ⟨c,by unfold He; rw [Nk]; simp [*]⟩
end Go.Proofs.YtkdeedhjkjffpaaGreat
namespace Go.Proofs.YtkdeedhjkjffpaaGreat
open Go.RowKit Go.Hub Go.Lib
def okL (p : ByteArray) (last : Bool) : Bool:=decide (p = ⟨#[43]⟩) || (decide (p = ⟨#[35]⟩) && last) || !Xd p
def G4 : List ByteArray → Bool
  | []=>true
  | p :: r=>okL p r.isEmpty && G4 r
theorem Sp {l : List ByteArray} {k : Nat} {p : ByteArray} (h : l[k]? = some p) : G4 (l.drop k) = (okL p (decide (((k : Nat) : Int) = (l.length : Int) - 1)) && G4 (l.drop (k + 1))):=by
  obtain ⟨a,rfl⟩:=List.getElem?_eq_some_iff.1 h;rw [List.drop_eq_getElem_cons a,G4]
  have e : (l.drop (k + 1)).isEmpty = decide (((k : Nat) : Int) = (l.length : Int) - 1):=by
    rw [Bool.eq_iff_iff];simp [List.isEmpty_iff,List.drop_eq_nil_iff];omega
  rw [e]
def Bp (s : ByteArray) : Bool:=Ik s && G4 (Aj s)
theorem Nl {l : List ByteArray} {k : Nat} {p : ByteArray} (h : l[k]? = some p) (a : okL p (decide (((k : Nat) : Int) = (l.length : Int) - 1)) = true) : G4 (l.drop (k + 1)) = G4 (l.drop k):=by
  rw [Sp h,a,Bool.true_and]
end Go.Proofs.YtkdeedhjkjffpaaGreat
namespace Go.Proofs.YtkdeedhjkjffpaaGreat
open Go.RowKit Go.Hub Go.Lib
def hd0 (l : List ByteArray) : ByteArray:=l.getD 0 ⟨#[]⟩
def Hb (f t : ByteArray) : Bool:=Bp f && He t && !(Yw (hd0 (Aj t)) ⟨#[36]⟩ && (decide (hd0 (Aj f) = ⟨#[43]⟩) || decide (hd0 (Aj f) = ⟨#[35]⟩))) && Gg (Aj f) (Aj t)
end Go.Proofs.YtkdeedhjkjffpaaGreat
namespace Go.Proofs.YtkdeedhjkjffpaaGreat
open Go.RowKit Go.Hub Go.Lib
theorem Zk : (Tryz.prog.info? 9).map (fun i=>(i.zero,i.size,i.bytes)) = some (some (.string ⟨#[]⟩),1,16):=by kernel_rfl
theorem Zl : (Tryz.prog.info? 9).map (fun i=>(i.zero,i.size)) = some (some (.string ⟨#[]⟩),1):=by kernel_rfl
theorem Zm (a : ByteArray) : Instr.fill (fun i=>some (i * 1,1)) ((Array.range (1 * 1)).map fun j=>(Value.cells (.string ⟨#[]⟩))[j % (Value.cells (.string ⟨#[]⟩)).size]!) [(0,.string a)] = some #[.string a]:=by kernel_rfl
def G5 (acc : List ByteArray) : List UInt8 → List ByteArray
  | []=>acc
  | b :: r=>if b = 47 then G5 (acc ++ [⟨#[]⟩]) r else G5 (acc.set (acc.length - 1) (acc.getD (acc.length - 1) ⟨#[]⟩ ++ ⟨#[b]⟩)) r
def Tv (s : ByteArray) : List ByteArray:=G5 [⟨#[]⟩] s.data.toList
def x5l (s : ByteArray) (w : World) (e : Ending) (w' : World) : Prop:=Kept [] w w' ∧ ∃ A c,e = .returned (.slice A (Tv s).length c) ∧ Ss w' A (Tv s) ∧ (Tv s).length ≤ c ∧ 1 ≤ (Tv s).length ∧ (Tv s).length ≤ s.size + 1
theorem Yy {w : World} {g : Nat} {x : ByteArray} (B : Blk w g 9 #[.string x]) : Own w 9 1 (.slice (some ⟨g,0,none⟩) 1 1) 1 [.string x]:=
  ⟨rfl,.inr ⟨g,0,1,_,rfl,B,by omega,by unfold maxLen; omega,by simp,fun j u a=>by simpa using a⟩⟩
theorem x1v {w w' : World} {g : Nat} {x : ByteArray} (B : Blk w' g 9 #[.string x]) (c : w.heap.size ≤ g) : Fresh w w' 9 1 (some ⟨g,0,none⟩) 1 1 [.string x]:=
  ⟨Yy B,fun b a=>by simp at a; omega⟩
theorem x9u (w : World) (g : Nat) (x : ByteArray) (B : Blk w g 9 #[.string x]) : Sl w (some ⟨g,0,none⟩) 1 1 [.string x]:=Sl.oO (Yy B)
theorem x5m {w w' : World} {A : Option Addr} {c : Nat} {l : List ByteArray} (F : Fresh w w' 9 1 A l.length c (l.map Value.string)) : Ss w' A l:=F.sl
theorem x1w {w w' : World} {A : Option Addr} {b a c : Nat} {l : List ByteArray} {x : ByteArray} (F : Fresh w w' 9 1 A l.length c (l.map Value.string)) (d : A = some ⟨b,a,none⟩) (f : l[l.length - 1]? = some x) (g : 1 ≤ l.length) : w'.cell? ⟨b,a + Int.toNat ((l.length : Int) - 1) * 1,none⟩ = some (.string x):=by
  rw [show Int.toNat ((l.length : Int) - 1) * 1 = l.length - 1 by omega];exact F.sl.cell (by omega) d (by simp [f])
theorem x1x {s : ByteArray} {k : Nat} {b : UInt8} {a : List ByteArray} (c : s[k]? = some b) (h : ((b.toNat : Nat) : Int) = 47) : G5 (a ++ [⟨#[]⟩]) (s.data.toList.drop (k + 1)) = G5 a (s.data.toList.drop k):=by
  rw [I2,← Array.getElem?_toList] at c;obtain ⟨d,rfl⟩:=List.getElem?_eq_some_iff.1 c
  conv=>rhs; rw [List.drop_eq_getElem_cons d]
  rw [G5,if_pos (UInt8.toNat_inj.1 (by have : (47 : UInt8).toNat = 47:=rfl; omega))]
theorem x9v {s : ByteArray} {k : Nat} {b : UInt8} (c : s[k]? = some b) : s.extract k (k + 1) = ⟨#[b]⟩:=by
  rw [I2] at c;obtain ⟨f,rfl⟩:=Array.getElem?_eq_some_iff.1 c
  apply ByteArray.ext
  rw [ByteArray.data_extract]
  apply Array.ext
  · have : s.data.size = s.size := rfl
    simp; omega
  intro i d a;simp at a;subst a
  simp
theorem x1y {s : ByteArray} {k : Nat} {b : UInt8} {x : ByteArray} {a : List ByteArray} (c : s[k]? = some b) (f : a[a.length - 1]? = some x) (h : ¬ ((b.toNat : Nat) : Int) = 47) : G5 (a.set (a.length - 1) (x ++ s.extract k (k + 1))) (s.data.toList.drop (k + 1)) = G5 a (s.data.toList.drop k):=by
  rw [x9v c];rw [I2,← Array.getElem?_toList] at c;obtain ⟨d,rfl⟩:=List.getElem?_eq_some_iff.1 c
  conv=>rhs; rw [List.drop_eq_getElem_cons d]
  rw [G5,if_neg (fun e=>h (by rw [e]; rfl))];rw [List.getD_eq_getElem?_getD,f]
  rfl
theorem y8x {a : List ByteArray} {k : Nat} (h : ∀ p ∈ a,p.size ≤ k) : ∀ p ∈ a ++ [(⟨#[]⟩ : ByteArray)],p.size ≤ k + 1:=by
  intro p b;simp at b
  rcases b with b | rfl
  · have:=h p b; omega
  exact Nat.zero_le _
theorem y8y {s : ByteArray} {a : List ByteArray} {k j : Nat} {x : ByteArray} (h : ∀ p ∈ a,p.size ≤ k) (c : x.size ≤ k) : ∀ p ∈ a.set j (x ++ s.extract k (k + 1)),p.size ≤ k + 1:=by
  intro p b
  rcases List.mem_or_eq_of_mem_set b with b | rfl
  · have:=h p b; omega
  rw [ByteArray.size_append,ByteArray.size_extract]; omega
section
variable {P : Program} {ops : Array Oper} {Q : Exit → Act → World → Prop} {a : Act} {w w0 : World} {n d : Nat} {l : FL} {v : Value} {ty : TypeId} {ps : String} {af : Array Edge} {gd : Option (Nat × Bool)} {x y : Operand} {t : TypeId} {K : Act → World → Prop} {i : Nat}
theorem OT.storeF (f : Fr n a l) (h : ops[i]? = some ⟨none, .store t x y, ty, ps, af, gd⟩) (hw : Region.wanted ⟨none, .store t x y, ty, ps, af, gd⟩ (yielded ops a.tmps) = true) (hi : (P.info? t).map (·.size) = some 1) {b g o j e size k c : Nat} {A : Option Addr} {xs : List Value} (m : A = some ⟨b, g, none⟩) (F : Fresh w0 w e size A k c xs) (hx : Ae l x = some (.pointer (some ⟨b, o, none⟩))) (ho : o = g + j) (hj : j < xs.length) (hy : Ae l y = some v) (q : v.oneCell' = true)
    (z : ∀ a' w',Fr n a' l → Fresh w0 w' e size A k c (xs.set j v) → Kept [b] w w' → w0.heap.size ≤ b → K a' w') : wpOp P ops Q i (fun a w=>True ∧ K a w) a w:=by
  subst ho;obtain ⟨⟨a4,r⟩,s,u⟩:=F.own.set_ m hj v;exact O.act (S:=fun _=>True) f h rfl hw (E.store f hi hx hy q r s) trivial fun a' p=>z a' _ p ⟨u,F.lo⟩ (Bj w b _ v) (F.lo b (by rw [m]; rfl))
end
theorem x5n (s : ByteArray) (w : World) (G : Glob w) (hs : s.size ≤ 1000000) : Calls Tryz.prog 89 #[.string s] w (x5l s w):=by
 have i : Kept [] w w:=Kept.refl [] w;refine Bw Tryz.func89 Tryz.ntmps89 fun _ f=>?_;refine pr f fun _ f=>?_;refine C.sk fun _ k1=>?_;refine L.buildSlice f Aa (by decide) (pL f rfl) U46 Zl rfl rfl (Zm _) fun _ w1 g0 N f=>?_;have F1 : Fresh w w1 9 1 (some ⟨g0,0,none⟩) [(⟨#[]⟩ : ByteArray)].length 1 ([(⟨#[]⟩ : ByteArray)].map Value.string):=x1v N.blk N.lo;obtain ⟨b1,q,a2,ax,az⟩:=N.al;have ak:=i.lo a2;replace i:=i.z q;clear N q;refine pe f k1 fun _ f=>?_;refine wp_seq_k fun _ k1=>?_;refine pr f fun _ f=>?_;refine wp_block ?_;refine C.loop (fun gk a W=>∃ (k : Nat) (A : Option Addr) (c : Nat) (g : List ByteArray),k + gk = s.size ∧ 1 ≤ g.length ∧ g.length ≤ k + 1 ∧ G5 g ((s.data.toList).drop k) = Tv s ∧ (∀ p ∈ g,p.size ≤ k) ∧ Kept [] w W ∧ Fresh w W 9 1 A g.length c (g.map Value.string) ∧ Fr 33 a [(0,.string s),(3,.slice A g.length c),(4,.int .i64 k)]) (s.size) ?_ ?_
 ·exact ⟨0,some ⟨g0,0,none⟩,1,[⟨#[]⟩],by omega,by simp,by simp,rfl,fun p hp=>by rw [List.mem_singleton.1 hp]; exact Nat.le_refl _,i,F1,f.sub (sx (sx (sx sn)))⟩
 intro a0 _ w2 hI b5 m;obtain ⟨k,A,c,g,hk,a1,ba,hq,v,i,F,d⟩:=hI
 try clear f
 have b7 : ∀ b,A.map (·.block) = some b → b < w2.heap.size:=fun b hb=>(F.own.blk b ((Ag _ _ _ b).2 hb)).1;refine wp_seq_k fun _ k2=>C.sk fun _ k3=>?_;refine L.s d fun _ f=>?_;refine L.s f fun _ f=>?_;refine L.va f (E.lenS f U9 rfl) fun _ f=>?_;refine pe f k3 fun _ f=>?_;refine f.sD 9 rfl (fun h0 f=>?_) (fun h0 f=>?_)
 ·obtain ⟨b,hb⟩ : ∃ b,s[k]? = some b:=⟨s[k]'(by omega),getElem?_pos s k (by omega)⟩;refine C.cT f rfl ?_;refine wp_skip (k2 _ _ ?_);have d:=f.pk [0,3,4,6,7,8,9];refine wp_seq_k fun _ k2=>?_;refine wp_block ?_;refine C.sk fun _ k3=>?_;(iterate 2 refine L.s d fun _ d=>?_);refine L.va d (E.indexS d U9 rfl rfl (by omega) (by assumption)) fun _ d=>?_;refine pe d k3 fun _ d=>?_;refine d.sD 15 rfl (fun h1 d=>?_) (fun h1 d=>?_)
  ·have t:=h1;refine C.cT d rfl ?_;refine C.region ?_;refine L.s d fun _ h=>?_;refine L.buildSlice h Aa (by decide) (pL h rfl) U46 Zl rfl rfl (Zm _) fun _ w3 g2 N h=>?_;obtain ⟨aa,q,a3,ay,a4⟩:=N.al;have ao:=i.lo a3;replace i:=i.z q;replace F:=F.k0 q;clear N q;refine L.append h Aa (by decide) U46 Zk rfl rfl rfl rfl (F.own) ((x9u _ _ _ aa)) (fun u hu=>by simp at hu; subst hu; rfl) (by unfold maxLen; omega) (by omega) fun _ w4 Ay cy r h=>?_;have FY : Fresh w w4 9 1 Ay (g.length + 1) cy (g.map Value.string ++ [.string ⟨#[]⟩]):=r.next F i.size
   replace i:=r.grow F i;have o:=r.kept;have a5:=o.size;clear o;refine pe h k2 fun _ h=>?_;refine C.region ?_;(iterate 3 refine L.s h fun _ h=>?_);refine wpList_nil (m _ _ (a0 - 1) ?_ ?_)
   ·omega
   exact ⟨k + 1,Ay,cy,g ++ [⟨#[]⟩],by omega,by simp,by simp; omega,(x1x hb t).trans hq,y8x v,i,by simpa using FY,h.sub (sx (Dx (by rw [List.length_append]; rfl) (sx sn)))⟩
  have t:=h1;obtain ⟨x,y⟩ : ∃ x,g[g.length - 1]? = some x:=⟨g[g.length - 1]'(by omega),List.getElem?_eq_getElem _⟩;obtain ⟨bk,bf,hA⟩:=F.sl.addr (by omega);have ad:=v x (List.mem_of_getElem? y);refine C.cF d rfl ?_;refine RB.begin (S:=fun W=>Kept [] w2 W) 12 (by kernel_rfl) (by exact (Kept.refl _ _).drewN 1) ?_;have l:=dk w2 1;have ac:=dk w2 1;obtain ⟨w3,n⟩ : ∃ W,W = w2.drewN 1:=⟨_,rfl⟩;rw [← n] at l ac ⊢;clear n;have a4:=l.size;refine rb [0,1,2,3,4] d fun _ d=>?_;refine RB.tk 5 d rfl l (fun W hW=>(E.load d U9 rfl rfl (x1w (F.k0 hW) hA y a1))) fun _ d=>?_;refine rb [6,7,8,9] d fun _ d=>?_;refine RB.p 10 d rfl l (E.slS d U9 rfl rfl rfl (by omega) (by omega) (by omega) ) fun _ d=>?_;refine RB.p 11 d rfl l (E.addS d rfl rfl (by rw [ByteArray.size_extract]; omega)) fun _ d=>?_;refine RB.stop (by kernel_rfl) ?_;have ag:=l.size;replace i:=i.z l;replace F:=F.k0 l;clear l;refine rq [12] d fun _ d=>?_;refine R.on 13 ?_;refine OT.storeF d rfl Aa Z2 hA F (j:=g.length - 1) rfl (by omega) (by rw [List.length_map]; omega) rfl rfl fun _ w4 d FS ks bd=>?_;have a5:=ks.size;replace i:=i.trans ks (by intro x y bb; simp at y; subst y; exfalso; omega);replace F:=FS;refine R.dn k2 ?_;refine C.region ?_;(iterate 3 refine L.s d fun _ d=>?_);refine wpList_nil (m _ _ (a0 - 1) ?_ ?_)
  ·omega
  exact ⟨k + 1,A,c,g.set (g.length - 1) (x ++ s.extract k (k + 1)),by omega,by simp; omega,by simp; omega,(x1y hb y t).trans hq,y8y v ad,i,by simpa using F,d.sub (sx (Dx (by rw [List.length_set]; rfl) (sx sn)))⟩
 have au:=h0;refine C.cF f rfl ?_;refine wp_exit (k1 _ _ ?_);refine rt f ?_;rw [List.drop_eq_nil_of_le (by have : s.data.toList.length = s.size:=rfl; omega)] at hq;have e : Tv s = g:=hq.symm;obtain ⟨A',c',e1,e2,_⟩:=F.own.form
 injection e1 with e1 e3 e4
 exact ⟨i,A,c,by rw [e],by rw [e]; exact x5m F,by rw [e]; omega,by rw [e]; exact a1,by rw [e]; omega⟩
end Go.Proofs.YtkdeedhjkjffpaaGreat
namespace Go.Proofs.YtkdeedhjkjffpaaGreat
open Go.RowKit Go.Hub Go.Lib
def sp : List UInt8 → List (List UInt8)
  | []=>[[]]
  | b :: l=>if b = 47 then [] :: sp l else match sp l with
    | h :: t=>(b :: h) :: t
    | []=>[[b]]
def Pf (x : List UInt8) : List (List UInt8) → List (List UInt8)
  | h :: t=>(x ++ h) :: t
  | []=>[]
theorem x1z (m : List (List UInt8)) : Pf [] m = m:=by cases m <;> rfl
theorem Va (l : List UInt8) : ∃ h t,sp l = h :: t:=by
  cases l with
  | nil=>exact ⟨[],[],rfl⟩
  | cons b l=>
    rw [sp]
    split
    · exact ⟨_,_,rfl⟩
    split <;> exact ⟨_,_,rfl⟩
theorem x5o (l : List UInt8) : Lib.split (47 :: l) [47] = [] :: Lib.split l [47]:=by
  have a : index (47 :: l) [47] = ((0 : Nat) : Int):=by rw [index]; simp [List.isPrefixOf]
  unfold Lib.split;rw [count_cons_eq,Nat.add_comm,splitK,a]
  simp
theorem x5p {b : UInt8} (l : List UInt8) (h : b ≠ 47) : Lib.split (b :: l) [47] = Pf [b] (Lib.split l [47]):=by
  have i : ([47] : List UInt8).isPrefixOf (b :: l) = false:=by simp [List.isPrefixOf,Ne.symm h]
  have c : index (b :: l) [47] = if index l [47] == -1 then -1 else index l [47] + 1:=by rw [index,i]; simp
  unfold Lib.split;rw [count_cons_ne b 47 l h]
  by_cases f : index l [47] = -1
  · rw [count_miss f]
    rfl
  have g:=index_ge l [47];obtain ⟨j,d⟩ : ∃ j : Nat,index l [47] = j:=⟨(index l [47]).toNat,by omega⟩;have a : index (b :: l) [47] = ((j + 1 : Nat) : Int):=by rw [c,if_neg (fun e=>f (beq_iff_eq.1 e)),d]; omega
  rw [count_hit (by simp) d,Nat.add_comm,splitK,splitK,a,d];rw [if_neg (by rw [beq_iff_eq]; omega),if_neg (by rw [beq_iff_eq]; omega)];simp only [Int.toNat_natCast,Nat.add_zero,List.length_cons,List.length_nil,Nat.zero_add,List.take_succ_cons,List.drop_succ_cons,Pf,List.singleton_append]
theorem Il : ∀ l : List UInt8, sp l = Lib.split l [47]
  | []=>by rfl
  | b :: l=>by
    by_cases h : b = 47
    · subst h
      rw [sp,if_pos rfl,x5o,Il l]
    obtain ⟨x,t,e⟩:=Va l
    rw [sp,if_neg h,x5p l h,← Il l,e]
    rfl
theorem Pg : ∀ (l : List UInt8) (a : List ByteArray) (x : ByteArray), (G5 (a ++ [x]) l).map (·.data.toList) = a.map (·.data.toList) ++ Pf x.data.toList (sp l)
  | [],a,x=>by simp [G5,sp,Pf]
  | b :: l,a,x=>by
    obtain ⟨h,t,e⟩:=Va l
    by_cases hb : b = 47
    · rw [G5, if_pos hb, Pg l (a ++ [x]) ⟨#[]⟩, sp, if_pos hb]
      simp [Pf,e]
    rw [G5,if_neg hb]
    have e1 : (a ++ [x]).getD ((a ++ [x]).length - 1) ⟨#[]⟩ = x:=by simp [List.getD]
    have c : (a ++ [x]).set ((a ++ [x]).length - 1) (x ++ ⟨#[b]⟩) = a ++ [x ++ ⟨#[b]⟩]:=by simp
    rw [e1,c,Pg l a (x ++ ⟨#[b]⟩),sp,if_neg hb,e]
    simp [Pf,ByteArray.data_append]
theorem x9w {l m : List ByteArray} (h : l.map (·.data.toList) = m.map (·.data.toList)) : l = m:=by
  refine List.map_inj_right (f:=fun s : ByteArray=>s.data.toList) ?_ |>.1 h
  intro x y a;exact ByteArray.ext (Array.toList_inj.1 a)
theorem x9x (s : ByteArray) : Tv s = Aj s:=by
  apply x9w
  have h:=Pg s.data.toList [] ⟨#[]⟩;unfold Tv Aj;rw [splitB_data];rw [List.nil_append] at h;rw [h];simp only [List.map_nil,List.nil_append];rw [x1z,Il]
  rfl
end Go.Proofs.YtkdeedhjkjffpaaGreat
namespace Go.Proofs.YtkdeedhjkjffpaaGreat
open Go.RowKit Go.Hub Go.Lib
def Ph (a p1 b p2 last : Bool) : Bool:=(a && !p1) || (b && (!p2 || !last))
theorem Hv (p : ByteArray) (a : Bool) : okL p a = !Ph (Dv p 43) (decide (p = ⟨#[43]⟩)) (Dv p 35) (decide (p = ⟨#[35]⟩)) a:=by
  unfold okL Ph;rw [Nk]
  by_cases b : p = ⟨#[43]⟩
  · rw [b]
    rw [show Dv ⟨#[43]⟩ 43 = true by kernel_rfl,show Dv ⟨#[43]⟩ 35 = false by kernel_rfl,decide_eq_true rfl]
    rfl
  rw [decide_eq_false b]
  by_cases c : p = ⟨#[35]⟩
  · rw [c]
    rw [show Dv ⟨#[35]⟩ 43 = false by kernel_rfl,show Dv ⟨#[35]⟩ 35 = true by kernel_rfl,decide_eq_true rfl]
    cases a <;> rfl
  rw [decide_eq_false c]
  cases Dv p 43 <;> cases Dv p 35 <;> cases a <;> rfl
theorem Ga (s : ByteArray) (w : World) (G : Glob w) (b : s.size ≤ 1000000) : Calls Tryz.prog 89 #[.string s] w (x9t s w):=by
  refine (x5n s w G b).mono ?_;rintro e d ⟨a,A,c,h⟩;rw [x9x] at h;exact ⟨a,A,c,h⟩
theorem x5q : ∀ (l p : List UInt8), p ∈ sp l → p.length ≤ l.length
  | [],p,h=>by
    rw [sp,List.mem_singleton] at h
    simp [h]
  | b :: l,p,h=>by
    obtain ⟨x,t,e⟩:=Va l
    have a:=x5q l
    rw [e] at a
    rw [sp] at h
    split at h
    · rw [e, List.mem_cons] at h
      rcases h with rfl | h
      · simp
      have:=a p h
      simp; omega
    rw [e] at h
    simp only [List.mem_cons] at h
    rcases h with rfl | h
    · have := a x (by simp)
      simp; omega
    have:=a p (by simp [h])
    simp; omega
theorem x5r {s p : ByteArray} (d : s.size ≤ 1000000) (h : p ∈ Aj s) : p.size ≤ 1000000:=by
  have e : (Aj s).map (·.data.toList) = sp s.data.toList:=by
    unfold Aj;rw [splitB_data,Il]
    rfl
  have a : p.data.toList ∈ sp s.data.toList:=by rw [← e]; exact List.mem_map.2 ⟨p,h,rfl⟩
  have:=x5q _ _ a;have b : p.data.toList.length = p.size:=rfl;have c : s.data.toList.length = s.size:=rfl;omega
theorem G6 (s : ByteArray) (w : World) (G : Glob w) (hs : s.size ≤ 1000000) : Calls Tryz.prog 64 #[.string s] w (fun e w'=>Kept [] w w' ∧ e = .returned (.bool (Bp s))):=by
 have j : Kept [] w w:=Kept.refl [] w;refine Bw Tryz.func64 Tryz.ntmps64 fun _ f=>?_;refine pr f fun _ f=>?_;refine wp_seq_k fun _ k1=>C.sk fun _ x=>?_;refine L.s f fun _ f=>?_;refine L.cl f (Dt f Tryz.call60) (Sn s w (G.kept j).1 hs) ?_;rintro e w1 ⟨q,rfl⟩;refine ⟨_,rfl,fun _ f=>?_⟩;have ai:=q.size;replace j:=j.z q;clear q;refine pe f x fun _ f=>?_;refine f.sB 7 rfl (fun h0 f=>?_) (fun h0 f=>?_)
 ·have h7:=h0;refine C.cT f rfl ?_;refine rt f ?_;exact ⟨j,by unfold Bp; simp [*]⟩
 have h7:=h0;refine C.cF f rfl ?_;refine wp_skip (k1 _ _ ?_);refine C.sk fun _ k1=>?_;refine L.s f fun _ f=>?_;refine L.cl f (Dt f Tryz.call89) (Ga s w1 (G.kept j) hs) ?_;rintro e w2 ⟨q,A,c,rfl,o,l2,l3,l4⟩;refine ⟨_,rfl,fun _ f=>?_⟩;have aj:=q.size;replace j:=j.z q;clear q;refine pe f k1 fun _ f=>?_;refine wp_seq_k fun _ k1=>?_;refine pr f fun _ f=>?_;refine wp_block ?_;refine C.loop (fun gk a W=>∃ k : Nat,k + gk = (Aj s).length ∧ G4 ((Aj s).drop k) = G4 (Aj s) ∧ Kept [] w W ∧ Ss W A (Aj s) ∧ Fr 49 a [(3,.slice A (Aj s).length c),(4,.int .i64 k)]) ((Aj s).length) ?_ ?_
 ·exact ⟨0,by omega,rfl,j,o,f.sub (sx (sx sn))⟩
 intro v _ w3 hI ak n;obtain ⟨k,hk,u,j,o,b⟩:=hI
 try clear f
 refine wp_seq_k fun _ x=>?_;refine pr b fun _ f=>?_;refine f.sD 13 rfl (fun h1 f=>?_) (fun h1 f=>?_)
 ·obtain ⟨p,m⟩ : ∃ p,(Aj s)[k]? = some p:=⟨(Aj s)[k]'(by omega),List.getElem?_eq_getElem _⟩;obtain ⟨b1,o1,hA⟩:=o.addr (k:=k) (by omega);have a1:=x5r hs (List.mem_of_getElem? m);refine C.cT f rfl ?_;refine wp_skip (x _ _ ?_);have b:=f.pk [3,4,10,11,12,13];refine wp_seq_k fun _ x=>?_;refine wp_block ?_;refine C.sk fun _ k3=>?_;(iterate 3 refine L.s b fun _ b=>?_);refine L.lo b (Hu o hA m) fun _ b=>?_;refine L.cl b (Bm b Tryz.call61) (Ki p 43 _ a1) ?_;rintro e a6 ⟨rfl,rfl⟩;refine ⟨_,rfl,fun _ b=>?_⟩;refine L.s b fun _ b=>?_;refine b.split 21 rfl (fun h2 b=>?_) (fun h2 b=>?_)
  ·have i:=h2;refine L.s b fun _ d=>?_;(iterate 2 refine L.s d fun _ d=>?_);refine L.lo d (Hu o hA m) fun _ d=>?_;(iterate 3 refine L.s d fun _ d=>?_);refine d.sN 28 rfl (fun h3 d=>?_) (fun h3 d=>?_)
   ·have r:=h3;refine L.rn d fun _ g=>?_;refine wn k3 ?_;have g:=g.sub (sv 48 (.bool true) (Ft g [3,4,10,11,12,13,16,17,18,19,20,21,22,23,24,25,26,27,28]));refine C.cT g rfl ?_;refine rt g ?_;exact ⟨j,by unfold Bp; rw [← u,Sp m]; rw [Hv,show Dv p 43 = true from i,decide_eq_false r]; simp [Ph]⟩
   have r:=h3;(iterate 3 refine L.s d fun _ d=>?_);refine L.lo d (Hu o hA m) fun _ d=>?_;refine L.cl d (Bm d Tryz.call61) (Ki p 35 _ a1) ?_ (hw:=d.y);rintro e a6 ⟨rfl,rfl⟩;refine ⟨_,rfl,fun _ d=>?_⟩;refine L.s d fun _ d=>?_;refine d.split 34 rfl (fun h4 d=>?_) (fun h4 d=>?_)
   ·have h:=h4;refine L.s d fun _ g=>?_;(iterate 2 refine L.s g fun _ g=>?_);refine L.lo g (Hu o hA m) fun _ g=>?_;(iterate 2 refine L.s g fun _ g=>?_);refine g.sN 40 rfl (fun h5 g=>?_) (fun h5 g=>?_)
    ·have l:=h5;refine L.rn g fun _ t=>?_;refine wn k3 ?_;have t:=t.sub (sv 46 (.bool true) (sv 47 (.bool true) (sv 48 (.bool true) (Ft t [3,4,10,11,12,13,16,17,18,19,20,21,22,23,24,25,26,27,28,29,30,31,32,33,34,35,36,37,38,39,40]))));refine C.cT t rfl ?_;refine rt t ?_;exact ⟨j,by unfold Bp; rw [← u,Sp m]; rw [Hv,show Dv p 43 = true from i,decide_eq_true r,show Dv p 35 = true from h,decide_eq_false l]; simp [Ph]⟩
    have l:=h5;refine pe g k3 fun _ g=>?_;refine C.sp g (fun h6 g=>?_) (fun h6 g=>?_)
    ·have a0:=h6;refine rt g ?_;exact ⟨j,by unfold Bp; rw [← u,Sp m]; rw [Hv,show Dv p 43 = true from i,decide_eq_true r,show Dv p 35 = true from h,decide_eq_true l,show decide (((k : Nat) : Int) = ((Aj s).length : Int) - 1) = false from decide_eq_false (by omega)]; simp [Ph]⟩
    have a0:=h6;refine wp_skip (x _ _ ?_);refine C.region ?_;(iterate 3 refine L.s g fun _ g=>?_);refine wpList_nil (n _ _ (v - 1) ?_ ?_)
    ·omega
    exact ⟨k + 1,by omega,(Nl m (by rw [Hv,show Dv p 43 = true from i,decide_eq_true r,show Dv p 35 = true from h,decide_eq_true l,show decide (((k : Nat) : Int) = ((Aj s).length : Int) - 1) = true from decide_eq_true (by omega)]; simp [Ph])).trans u,j,o,g.sub (sx (sx sn))⟩
   have h:=h4;refine L.rn d fun _ d=>?_;refine wn k3 ?_;have d:=d.sub (sv 47 (.bool false) (sv 48 (.bool false) (Ft d [3,4,10,11,12,13,16,17,18,19,20,21,22,23,24,25,26,27,28,29,30,31,32,33,34])));refine C.cF d rfl ?_;refine wp_skip (x _ _ ?_);refine C.region ?_;(iterate 3 refine L.s d fun _ d=>?_);refine wpList_nil (n _ _ (v - 1) ?_ ?_)
   ·omega
   exact ⟨k + 1,by omega,(Nl m (by rw [Hv,show Dv p 43 = true from i,decide_eq_true r,show Dv p 35 = false from (by simpa using h)]; simp [Ph])).trans u,j,o,d.sub (sx (sx sn))⟩
  have i:=h2;refine L.skip b b.nT rfl (by decide) fun _ b=>?_;refine L.skip b b.nT rfl (by decide) fun _ b=>?_;refine L.skip b b.nT rfl (by decide) fun _ b=>?_;refine L.skip b b.nT rfl (by decide) fun _ b=>?_;refine L.skip b b.nT rfl (by decide) fun _ b=>?_;(iterate 5 refine L.s b fun _ b=>?_);refine L.lo b (Hu o hA m) fun _ b=>?_;refine L.cl b (Bm b Tryz.call61) (Ki p 35 _ a1) ?_ (hw:=b.y);rintro e a6 ⟨rfl,rfl⟩;refine ⟨_,rfl,fun _ b=>?_⟩;refine L.s b fun _ b=>?_;refine b.split 34 rfl (fun h7 b=>?_) (fun h7 b=>?_)
  ·have h:=h7;refine L.s b fun _ d=>?_;(iterate 2 refine L.s d fun _ d=>?_);refine L.lo d (Hu o hA m) fun _ d=>?_;(iterate 2 refine L.s d fun _ d=>?_);refine d.sN 40 rfl (fun h8 d=>?_) (fun h8 d=>?_)
   ·have l:=h8;refine L.rn d fun _ g=>?_;refine wn k3 ?_;have g:=g.sub (sv 46 (.bool true) (sv 47 (.bool true) (sv 48 (.bool true) (Ft g [3,4,10,11,12,13,16,17,18,19,20,21,22,23,24,25,26,27,28,29,30,31,32,33,34,35,36,37,38,39,40]))));refine C.cT g rfl ?_;refine rt g ?_;exact ⟨j,by unfold Bp; rw [← u,Sp m]; rw [Hv,show Dv p 43 = false from (by simpa using i),show Dv p 35 = true from h,decide_eq_false l]; simp [Ph]⟩
   have l:=h8;refine pe d k3 fun _ d=>?_;refine C.sp d (fun h9 d=>?_) (fun h9 d=>?_)
   ·have a0:=h9;refine rt d ?_;exact ⟨j,by unfold Bp; rw [← u,Sp m]; rw [Hv,show Dv p 43 = false from (by simpa using i),show Dv p 35 = true from h,decide_eq_true l,show decide (((k : Nat) : Int) = ((Aj s).length : Int) - 1) = false from decide_eq_false (by omega)]; simp [Ph]⟩
   have a0:=h9;refine wp_skip (x _ _ ?_);refine C.region ?_;(iterate 3 refine L.s d fun _ d=>?_);refine wpList_nil (n _ _ (v - 1) ?_ ?_)
   ·omega
   exact ⟨k + 1,by omega,(Nl m (by rw [Hv,show Dv p 43 = false from (by simpa using i),show Dv p 35 = true from h,decide_eq_true l,show decide (((k : Nat) : Int) = ((Aj s).length : Int) - 1) = true from decide_eq_true (by omega)]; simp [Ph])).trans u,j,o,d.sub (sx (sx sn))⟩
  have h:=h7;refine L.rn b fun _ b=>?_;refine wn k3 ?_;have b:=b.sub (sv 47 (.bool false) (sv 48 (.bool false) (Ft b [3,4,10,11,12,13,16,17,18,19,20,21,22,23,24,25,26,27,28,29,30,31,32,33,34])));refine C.cF b rfl ?_;refine wp_skip (x _ _ ?_);refine C.region ?_;(iterate 3 refine L.s b fun _ b=>?_);refine wpList_nil (n _ _ (v - 1) ?_ ?_)
  ·omega
  exact ⟨k + 1,by omega,(Nl m (by rw [Hv,show Dv p 43 = false from (by simpa using i),show Dv p 35 = false from (by simpa using h)]; simp [Ph])).trans u,j,o,b.sub (sx (sx sn))⟩
 have ah:=h1;refine C.cF f rfl ?_;refine wp_exit (k1 _ _ ?_);have f:=f.sub sn;refine rt f ?_;exact ⟨j,by unfold Bp; rw [← u,List.drop_eq_nil_of_le (by omega)]; simp [G4,h7]⟩
end Go.Proofs.YtkdeedhjkjffpaaGreat
namespace Go.Proofs.YtkdeedhjkjffpaaGreat
open Go.RowKit Go.Hub
def Yz (most hi : Int) : Int:=Min.min (Max.max most 0) hi
def Bf (x : Int) : Int:=Min.min (Max.max x (-1099511627776)) 1099511627776
end Go.Proofs.YtkdeedhjkjffpaaGreat
namespace Go.Ids
def stp (t : Int) : Int:=t % 65535 + 1
def nxtG : Nat → List Int → Int → Option Int
  | 0,_,_=>none
  | k + 1,S,u=>if u ∈ S then nxtG k S (stp u) else some u
def nxt (S : List Int) (t : Int) : Int:=(nxtG 65535 S (stp t)).getD 0
theorem stp_bd (t : Int) (h : 0 ≤ t) : 1 ≤ stp t ∧ stp t ≤ 65535:=by unfold stp; omega
theorem Sr : ∀ (k : Nat) (S : List Int) (u r : Int), 1 ≤ u → u ≤ 65535 → nxtG k S u = some r → r ∉ S ∧ 1 ≤ r ∧ r ≤ 65535
  | 0,_,_,_,_,_,h=>by simp [nxtG] at h
  | k + 1,S,u,r,h1,h2,h=>by
    unfold nxtG at h
    split at h
    · exact Sr k S (stp u) r (stp_bd u (by omega)).1 (stp_bd u (by omega)).2 h
    rename_i hn
    obtain rfl : u = r:=by simpa using h
    exact ⟨hn,h1,h2⟩
theorem St : ∀ (k : Nat) (S : List Int) (u : Int), 1 ≤ u → u ≤ 65535 → nxtG k S u = none → ∀ i : Nat, i < k → ((u - 1 + i) % 65535 + 1) ∈ S
  | 0,_,_,_,_,_=>fun i hi=>by omega
  | k + 1,S,u,h1,h2,h=>by
    intro i hi
    unfold nxtG at h
    split at h
    · rename_i hu
      match i,hi with
      | 0,_=>rw [show (u - 1 + (0 : Nat)) % 65535 + 1 = u from by omega]; exact hu
      | i + 1,hi=>
        have:=St k S (stp u) (stp_bd u (by omega)).1 (stp_bd u (by omega)).2 h i (by omega)
        rw [show (stp u - 1 + i) % 65535 + 1 = (u - 1 + (i + 1 : Nat)) % 65535 + 1 from by unfold stp; omega] at this
        exact this
    cases h
theorem Vb : ∀ (n : Nat) (S : List Int), (∀ x : Nat, 1 ≤ x → x ≤ n → (x : Int) ∈ S) → n ≤ S.length
  | 0,_,_=>Nat.zero_le _
  | n + 1,S,h=>by
    have hm:=h (n + 1) (by omega) (by omega)
    have:=Vb n (S.erase (n + 1 : Nat)) (fun x a b=>(List.mem_erase_of_ne (by omega)).2 (h x a (by omega)))
    rw [List.length_erase_of_mem hm] at this
    have : 0 < S.length:=List.length_pos_of_mem hm
    omega
theorem nxtG_some (S : List Int) (t : Int) (b : 0 ≤ t) (f : S.length < 65535) : nxtG 65535 S (stp t) = some (nxt S t):=by
  unfold nxt
  cases h : nxtG 65535 S (stp t) with
  | some r=>rfl
  | none=>
    exfalso
    have a:=stp_bd t b
    have:=Vb 65535 S (fun x c d=>by
      have:=St 65535 S (stp t) a.1 a.2 h (((x : Int) - stp t) % 65535).toNat (by omega);rw [show (stp t - 1 + ((((x : Int) - stp t) % 65535).toNat : Int)) % 65535 + 1 = (x : Int) from by omega] at this
      exact this)
    omega
theorem nxt_spec (S : List Int) (t : Int) (a : 0 ≤ t) (b : S.length < 65535) : nxt S t ∉ S ∧ 1 ≤ nxt S t ∧ nxt S t ≤ 65535:=
  Sr _ _ _ _ (stp_bd t a).1 (stp_bd t a).2 (nxtG_some S t a b)
end Go.Ids
namespace Go.Proofs.YtkdeedhjkjffpaaGreat
open Go.RowKit Go.Hub
theorem y3r {k : Nat} {S : List Int} {u r : Int} (h : Go.Ids.nxtG k S u = some r) : 0 < k:=by
  cases k with
  | zero=>cases h
  | succ k=>omega
theorem x9y {k : Nat} {S : List Int} {u r : Int} (h : Go.Ids.nxtG k S u = some r) (a : u ∈ S) : Go.Ids.nxtG (k - 1) S (Go.Ids.stp u) = some r:=by
  cases k with
  | zero=>cases h
  | succ k=>simpa [Go.Ids.nxtG,a] using h
theorem x9z {k : Nat} {S : List Int} {u r : Int} (h : Go.Ids.nxtG k S u = some r) (a : u ∉ S) : u = r:=by
  cases k with
  | zero=>cases h
  | succ k=>simpa [Go.Ids.nxtG,a] using h
end Go.Proofs.YtkdeedhjkjffpaaGreat
namespace Go.Proofs.YtkdeedhjkjffpaaGreat
open Go.RowKit Go.Hub
def Vc (tp : ByteArray) (A : Option Addr) (n c : Nat) (qos : Int) (ret : Bool) (id : Int) (dup : Bool) : Array Value:=#[(.int .i64 3),(.bool dup),(.bool ret),(.int .i64 qos),(.int .i64 id),(.string tp),(.slice A n c),(.int .i64 0),(.string ⟨#[]⟩),(.bool false),(.int .i64 0),(.bool false),(.string ⟨#[]⟩),(.slice none 0 0),(.int .i64 0),(.bool false),(.bool false),(.bool false),(.string ⟨#[]⟩),(.slice none 0 0),(.bool false),(.int .i64 0),(.slice none 0 0),(.slice none 0 0)]
end Go.Proofs.YtkdeedhjkjffpaaGreat
namespace Go.Proofs.YtkdeedhjkjffpaaGreat
open Go.RowKit Go.Hub
structure Ms where
  tp : ByteArray
  pay : List UInt8
  qos : Int
  ret : Bool
structure Fa where
  m : Ms
  id : Int
  at_ : Int
  rc : Bool
structure SA where
  used : List Int
  taken : Int
  fly : List Fa
  wait : List Ms
  lost : Int
  got : List Int
structure Pa where
  kind : Int
  dup : Bool
  ret : Bool
  qos : Int
  id : Int
  tp : ByteArray
  pay : List UInt8
def Vd : SA:=⟨[],0,[],[],0,[]⟩
def D0 (m : Ms) (id : Int) (dup : Bool) : Pa:=⟨3,dup,m.ret,m.qos,id,m.tp,m.pay⟩
def Bq (k id : Int) : Pa:=⟨k,false,false,0,id,⟨#[]⟩,[]⟩
def Hf (s : SA) (m : Ms) (now : Int) : SA:={ s with used:=G1 (Go.Ids.nxt s.used s.taken) s.used,taken:=Go.Ids.nxt s.used s.taken,fly:=s.fly ++ [⟨m,Go.Ids.nxt s.used s.taken,Bf now,false⟩] }
def Fh (s : SA) (m : Ms) : Pa:=D0 m (Go.Ids.nxt s.used s.taken) false
def drainN : Nat → SA → Int → SA × List Pa
  | 0,s,_=>(s,[])
  | k + 1,s,now=>if s.fly.length < 4 then match s.wait with
      | []=>(s,[])
      | m :: r=>let t:={ s with wait:=r }; let q:=drainN k (Hf t m now) now; (q.1,Fh t m :: q.2)
    else (s,[])
def drainS (s : SA) (now : Int) : SA × List Pa:=drainN 5 s now
def Pj (s : SA) (m : Ms) : SA:=if s.wait.length < 8 then { s with wait:=s.wait ++ [m] } else { s with lost:=s.lost + 1 }
def sendS (s : SA) (m : Ms) (on : Bool) (now : Int) : SA × List Pa:=
  if m.qos = 0 ∧ on = true then (s,[D0 m 0 false])
  else if m.qos < 1 ∨ 2 < m.qos then (s,[])
  else if on = true ∧ s.fly.length < 4 ∧ s.wait.length = 0 then (Hf s m now,[Fh s m])
  else (Pj s m,[])
def Gu : List Int → Int → Int → Int
  | [],_,_=>-1
  | x :: r,id,k=>if x = id then k else Gu r id (k + 1)
def Hg (s : SA) (i : Nat) (id now : Int) : SA × List Pa:=drainS { s with used:=s.used.erase id,fly:=s.fly.eraseIdx i } now
def ackS (s : SA) (kind id now : Int) : SA × List Pa:=
  let i:=Gu (s.fly.map (·.id)) id 0
  match s.fly[i.toNat]? with
  | none=>(s,[])
  | some f=>
    if i < 0 then (s,[])
    else if (kind = 4 ∧ f.m.qos = 1) ∨ (kind = 7 ∧ f.rc = true) then Hg s i.toNat f.id now
    else if kind = 5 ∧ f.m.qos = 2 then ({ s with fly:=s.fly.set i.toNat { f with rc:=true,at_:=Bf now } },[Bq 6 f.id])
    else (s,[])
def againF (now ago : Int) : List Fa → List Fa × List Pa
  | []=>([],[])
  | f :: r => let q := againF now ago r
    if Bf now - f.at_ < ago then (f :: q.1,q.2) else ({ f with at_:=Bf now } :: q.1,(if f.rc = true then Bq 6 f.id else D0 f.m f.id true) :: q.2)
def againS (s : SA) (now ago : Int) : SA × List Pa:=({ s with fly:=(againF now ago s.fly).1 },(againF now ago s.fly).2)
def Nn (s : SA) (now : Int) : SA × List Pa:=let a:=againS s now (-4398046511104); let d:=drainS a.1 now; (d.1,a.2 ++ d.2)
def gotS (s : SA) (kind qos id : Int) : SA × Bool × List Pa:=
  if kind = 6 then ({ s with got:=s.got.erase id },false,[Bq 7 id])
  else if kind ≠ 3 ∨ qos < 0 ∨ 2 < qos then (s,false,[])
  else if qos = 0 then (s,true,[])
  else if qos = 1 then (s,true,[Bq 4 id])
  else ({ s with got:=G1 id s.got },!decide (id ∈ s.got),[Bq 5 id])
structure Mc where
  m : Ms
  A : Option Addr
  c : Nat
abbrev mcell (x : Mc) : List Value:=[.string x.m.tp,.slice x.A x.m.pay.length x.c,.int .i64 x.m.qos,.bool x.m.ret]
structure Fc where
  x : Mc
  id : Int
  at_ : Int
  rc : Bool
def Fc.abs (f : Fc) : Fa:=⟨f.x.m,f.id,f.at_,f.rc⟩
structure Pc where
  p : Pa
  A : Option Addr
  c : Nat
def pcell (x : Pc) : List Value:=[.int .i64 x.p.kind,.bool x.p.dup,.bool x.p.ret,.int .i64 x.p.qos,.int .i64 x.p.id,.string x.p.tp,.slice x.A x.p.pay.length x.c,.int .i64 0,.string ⟨#[]⟩,.bool false,.int .i64 0,.bool false,.string ⟨#[]⟩,.slice none 0 0,.int .i64 0,.bool false,.bool false,.bool false,.string ⟨#[]⟩,.slice none 0 0,.bool false,.int .i64 0,.slice none 0 0,.slice none 0 0]
def Pay (B : Nat) (w : World) (A : Option Addr) (l : List UInt8) : Prop:=Bs [5] B w A l.length l ∧ l.length ≤ 1000000000
structure PkAt (B : Nat) (w0 w : World) (A : Option Addr) (c : Nat) (l : List Pc) : Prop where
  fr : Fresh w0 w 39 24 A l.length c (l.flatMap pcell)
  pay : ∀ x ∈ l,Pay B w x.A x.p.pay
def Jw (w : World) (A A' : Option Addr) : Prop:=∀ b,A'.map (·.block) = some b → A.map (·.block) = some b ∨ w.heap.size ≤ b
section
variable {T : List TypeId} {M : List Nat} {B : Nat} {w w' w0 : World} {A : Option Addr} {c p q : Nat}
theorem Pay.mod {l : List UInt8} (h : Pay B w A l) (b : Mod T M B w w') (a : (5 : TypeId) ∉ T) : Pay B w' A l:=⟨h.1.mod b (by simpa using a),h.2⟩
theorem Pay.nil (B : Nat) (w : World) (A : Option Addr) : Pay B w A []:=⟨Bs.nil _ _ _ _,by simp⟩
theorem Pay.k0 {l : List UInt8} (h : Pay B w A l) (a : Kept [] w w') : Pay B w' A l:=h.mod (T:=[]) (M:=[]) (.o0 a) (by simp)
theorem PkAt.mod {l : List Pc} (h : PkAt B w0 w A c l) (b : Mod T M B w w') (a : (39 : TypeId) ∉ T ∧ (5 : TypeId) ∉ T) : PkAt B w0 w' A c l:=⟨h.fr.mod b a.1,fun x d=>(h.pay x d).mod b a.2⟩
theorem PkAt.nil (B : Nat) (w0 w : World) : PkAt B w0 w none 0 []:=⟨Fresh.nil _ _ _ _,by simp⟩
theorem PkAt.lw {l : List Pc} {w1 : World} (h : PkAt B w0 w A c l) (a : w1.heap.size ≤ w0.heap.size) : PkAt B w1 w A c l:=⟨h.fr.lw a,h.pay⟩
end
end Go.Proofs.YtkdeedhjkjffpaaGreat
namespace Go.Proofs.YtkdeedhjkjffpaaGreat
open Go.RowKit Go.Hub
theorem Pm {w : World} {g T size : Nat} {cs : Array Value} (B : Blk w g T cs) (h : cs.size = size) : Sl w (some ⟨g,0,none⟩) 1 size cs.toList:=
  ⟨by simpa using h,fun _=>⟨g,0,rfl,B.lt,fun j u a=>by rw [Nat.zero_add]; exact B.cell_ (by simpa using a)⟩⟩
end Go.Proofs.YtkdeedhjkjffpaaGreat
namespace Go.Proofs.YtkdeedhjkjffpaaGreat
open Go.RowKit Go.Hub
theorem x5s {l : List Fc} {id : Int} {k : Nat} {f : Fc} (c : l[k]? = some f) (h : ¬ f.id = id) : Gu ((l.drop k).map (·.id)) id k = Gu ((l.drop (k + 1)).map (·.id)) id ((k + 1 : Nat) : Int):=by
  obtain ⟨a,b⟩:=List.getElem?_eq_some_iff.1 c;rw [List.drop_eq_getElem_cons a,b];simp [Gu,h]
theorem y0a {l : List Fc} {id : Int} {k : Nat} {f : Fc} (c : l[k]? = some f) (h : f.id = id) : Gu ((l.drop k).map (·.id)) id k = k:=by
  obtain ⟨a,b⟩:=List.getElem?_eq_some_iff.1 c;rw [List.drop_eq_getElem_cons a,b];simp [Gu,h]
theorem I3 (x : Int) : -1099511627776 ≤ Bf x ∧ Bf x ≤ 1099511627776:=by unfold Bf; omega
end Go.Proofs.YtkdeedhjkjffpaaGreat
namespace Go.Proofs.YtkdeedhjkjffpaaGreat
open Go.RowKit Go.Hub Go.Lib Go.MapKept
abbrev FE:=List (ByteArray × Int)
def I4 (a b : ByteArray) : Prop:=Op.bytesLess a.toList b.toList = true
instance (a b : ByteArray) : Decidable (I4 a b):=by unfold I4; exact inferInstance
theorem Kk : ∀ (x y : List UInt8), Op.bytesLess x y = decide (x < y)
  | [],[]=>by simp [Op.bytesLess]
  | _ :: _,[]=>by simp [Op.bytesLess]
  | [],_ :: _=>by simp [Op.bytesLess]
  | a :: x,b :: y=>by
    rw [Op.bytesLess,Kk x y]
    simp only [List.cons_lt_cons_iff]
    by_cases h1 : a < b <;> by_cases h2 : a = b <;> by_cases h3 : x < y <;> simp [h1,h2,h3]
theorem Tw (a b : ByteArray) : I4 a b ↔ a.toList < b.toList:=by unfold I4; rw [Kk]; simp
theorem D3 (a : ByteArray) : ¬ I4 a a:=by rw [Tw]; exact List.lt_irrefl _
end Go.Proofs.YtkdeedhjkjffpaaGreat
namespace Go.Proofs.YtkdeedhjkjffpaaGreat
open Go.RowKit Go.Hub
theorem Zn (x : Pc) : Instr.fill (fun i=>some (i * 24,24)) ((Array.range (1 * 24)).map fun j=>(Value.cells (.agg #[(.int .i64 0),(.bool false),(.bool false),(.int .i64 0),(.int .i64 0),(.string ⟨#[]⟩),(.slice none 0 0),(.int .i64 0),(.string ⟨#[]⟩),(.bool false),(.int .i64 0),(.bool false),(.string ⟨#[]⟩),(.slice none 0 0),(.int .i64 0),(.bool false),(.bool false),(.bool false),(.string ⟨#[]⟩),(.slice none 0 0),(.bool false),(.int .i64 0),(.slice none 0 0),(.slice none 0 0)]))[j % (Value.cells (.agg #[(.int .i64 0),(.bool false),(.bool false),(.int .i64 0),(.int .i64 0),(.string ⟨#[]⟩),(.slice none 0 0),(.int .i64 0),(.string ⟨#[]⟩),(.bool false),(.int .i64 0),(.bool false),(.string ⟨#[]⟩),(.slice none 0 0),(.int .i64 0),(.bool false),(.bool false),(.bool false),(.string ⟨#[]⟩),(.slice none 0 0),(.bool false),(.int .i64 0),(.slice none 0 0),(.slice none 0 0)])).size]!) [(0,.agg (pcell x).toArray)] = some (pcell x).toArray:=by kernel_rfl
theorem Zo : (Tryz.prog.info? 39).map (fun i=>(i.zero,i.size)) = some (some (.agg #[(.int .i64 0),(.bool false),(.bool false),(.int .i64 0),(.int .i64 0),(.string ⟨#[]⟩),(.slice none 0 0),(.int .i64 0),(.string ⟨#[]⟩),(.bool false),(.int .i64 0),(.bool false),(.string ⟨#[]⟩),(.slice none 0 0),(.int .i64 0),(.bool false),(.bool false),(.bool false),(.string ⟨#[]⟩),(.slice none 0 0),(.bool false),(.int .i64 0),(.slice none 0 0),(.slice none 0 0)]),24):=by kernel_rfl
theorem I5 (x : Pc) : ∀ u ∈ pcell x,u.oneCell' = true:=by simp [pcell,Value.oneCell']
theorem PkAt.push {B : Nat} {d w w' : World} {A f : Option Addr} {c i : Nat} {l : List Pc} {x : Pc} (h : PkAt B d w A c l) (g : App w w' 39 24 A l.length c (l.flatMap pcell) (pcell x) 1 f i) (hw : d.heap.size ≤ w.heap.size) (k : B ≤ d.heap.size) (n : Pay B w x.A x.p.pay) : PkAt B d w' f i (l ++ [x]):=by
  have j : Mod [39] [] B w w':=.of_app g h.fr.own (fun a m=>Nat.le_trans k (h.fr.from a m)) (by simp);refine ⟨by simpa using g.next h.fr hw,fun y b=>?_⟩
  rcases List.mem_append.1 b with b | b
  · exact (h.pay y b).mod j (by decide)
  obtain rfl:=List.mem_singleton.1 b;exact n.mod j (by decide)
end Go.Proofs.YtkdeedhjkjffpaaGreat
namespace Go.Proofs.YtkdeedhjkjffpaaGreat
open Go.RowKit Go.Hub
theorem y0b {w : World} {e : TypeId} {size n c f : Nat} {A : Option Addr} {xs : List Value} (h : Own w e size (.slice A n c) n xs) (j : MapB w f) : Far A [f]:=fun a i d=>by
  obtain ⟨_,g,b⟩:=h.blk a.block (by rw [i]; rfl)
  simp only [List.mem_singleton] at d
  rw [d] at b
  exact (Typ.not_map (T:=[e]) ⟨g,e,_,b,by simp⟩) j
theorem Xe {α : Type} {l : List α} {i : Nat} (h : i < l.length) : l.Perm (l[i] :: l.eraseIdx i):=by
  rw [List.eraseIdx_eq_take_drop_succ];have a : l = l.take i ++ l[i] :: l.drop (i + 1):=by rw [← List.drop_eq_getElem_cons h,List.take_append_drop]
  exact (List.Perm.of_eq a).trans List.perm_middle
theorem x2a {α β : Type} (f : α → β) (l : List α) (i : Nat) : (l.eraseIdx i).map f = (l.map f).eraseIdx i:=by
  rw [List.eraseIdx_eq_take_drop_succ,List.eraseIdx_eq_take_drop_succ,List.map_append,List.map_take,List.map_drop]
theorem y0c {l a : List Fc} {k : Nat} {f : Fc} (h : a = l.drop k) (d : l[k]? = some f) : ∃ rs',rs' = l.drop (k + 1) ∧ a = f :: rs':=by
  obtain ⟨b,c⟩:=List.getElem?_eq_some_iff.1 d;exact ⟨_,rfl,by rw [h,List.drop_eq_getElem_cons b,c]⟩
section
variable {now ago : Int} {f : Fc} {dn rs' l : List Fc} {pks : List Pc} {k : Nat}
theorem Xf (h : Bf now - f.at_ < ago) : (dn.map Fc.abs ++ (againF now ago ((f :: rs').map Fc.abs)).1,pks.map (·.p) ++ (againF now ago ((f :: rs').map Fc.abs)).2) = ((dn ++ [f]).map Fc.abs ++ (againF now ago (rs'.map Fc.abs)).1,pks.map (·.p) ++ (againF now ago (rs'.map Fc.abs)).2):=by
  rw [List.map_cons,againF,if_pos (show Bf now - f.abs.at_ < ago from h)]
  simp
theorem Ve {x : Pc} (h : ¬ Bf now - f.at_ < ago) (b : (if f.rc = true then Bq 6 f.id else D0 f.x.m f.id true) = x.p) : (dn.map Fc.abs ++ (againF now ago ((f :: rs').map Fc.abs)).1,pks.map (·.p) ++ (againF now ago ((f :: rs').map Fc.abs)).2) = ((dn ++ [{ f with at_:=Bf now }]).map Fc.abs ++ (againF now ago (rs'.map Fc.abs)).1,(pks ++ [x]).map (·.p) ++ (againF now ago (rs'.map Fc.abs)).2):=by
  have a : (if f.abs.rc = true then Bq 6 f.abs.id else D0 f.abs.m f.abs.id true) = x.p:=b;rw [List.map_cons,againF,if_neg (show ¬ Bf now - f.abs.at_ < ago from h),a];simp [Fc.abs]
theorem Mn {f' : Fc} (h : dn.map (·.id) = (l.take k).map (·.id)) (a : l[k]? = some f) (hi : f'.id = f.id) : (dn ++ [f']).map (·.id) = (l.take (k + 1)).map (·.id):=by
  rw [List.map_append,h,List.take_succ,a,List.map_append];simp [hi]
theorem Mo {f' : Fc} (h : ∀ f ∈ dn,-1099511627776 ≤ f.at_ ∧ f.at_ ≤ 1099511627776) (b : -1099511627776 ≤ f'.at_ ∧ f'.at_ ≤ 1099511627776) : ∀ f ∈ dn ++ [f'],-1099511627776 ≤ f.at_ ∧ f.at_ ≤ 1099511627776:=fun g a=>by
  rcases List.mem_append.1 a with a | a
  · exact h g a
  obtain rfl:=List.mem_singleton.1 a
  exact b
end
end Go.Proofs.YtkdeedhjkjffpaaGreat
namespace Go.Proofs.YtkdeedhjkjffpaaGreat
open Go.RowKit Go.Hub
def QFar (w w' : World) (A : Option Addr) : Prop:=∀ k,k < w.heap.size → Typ w k [58] → (∀ b,A.map (·.block) = some b → b ≠ k) → w'.heap[k]? = w.heap[k]?
theorem QFar.refl (w : World) (A : Option Addr) : QFar w w A:=fun _ _ _ _=>rfl
theorem QFar.mod {w w1 i : World} {A : Option Addr} {T : List TypeId} {M : List Nat} {B : Nat} (h : QFar w w1 A) (r : Mod T M B w1 i) (p : (58 : TypeId) ∉ T) (s : w.heap.size ≤ w1.heap.size:=by omega) : QFar w i A:=fun k f g c=>by
  have d:=h k f g c
  have a : Typ w1 k [58]:=g.of_eq d
  refine (r.block k (Nat.lt_of_lt_of_le f s) (.inr ⟨?_,fun q=>a.not_map q.1⟩)).trans d
  rintro ⟨t,e,v,m,n⟩
  obtain ⟨j,u,l,b,o⟩:=a
  rw [m] at b
  injection b with b
  injection b with _ he _
  subst he
  have:=List.mem_singleton.1 o
  subst this
  exact p n
theorem Xg (l : List Pc) : ∀ u ∈ l.flatMap pcell,u.oneCell' = true:=fun u a=>by
  obtain ⟨x,_,h⟩:=List.mem_flatMap.1 a
  exact I5 x u h
theorem PkAt.app {B : Nat} {f w w' : World} {A g : Option Addr} {c j : Nat} {l d : List Pc} (h : PkAt B f w A c l) (i : App w w' 39 24 A l.length c (l.flatMap pcell) (d.flatMap pcell) d.length g j) (hw : f.heap.size ≤ w.heap.size) (m : B ≤ f.heap.size) (o : ∀ x ∈ d,Pay B w x.A x.p.pay) : PkAt B f w' g j (l ++ d):=by
  have k : Mod [39] [] B w w':=.of_app i h.fr.own (fun a n=>Nat.le_trans m (h.fr.from a n)) (by simp);refine ⟨by simpa using i.next h.fr hw,fun y b=>?_⟩
  rcases List.mem_append.1 b with b | b
  · exact (h.pay y b).mod k (by decide)
  exact (o y b).mod k (by decide)
theorem Pn : ∀ (k : Nat) (s : SA) (now : Int), (drainN k s now).2.length ≤ k
  | 0,_,_=>by simp [drainN]
  | k + 1,s,now=>by
    unfold drainN
    split
    · split
      · simp
      simp only [List.length_cons]
      exact Nat.succ_le_succ (Pn k _ now)
    simp
theorem Po (s : SA) (now : Int) : (drainS s now).2.length ≤ 5:=Pn 5 s now
theorem Pp {B g : Nat} {w W : World} {x : Pc} (O : Own W 39 24 (.slice (some ⟨g,0,none⟩) 1 1) 1 (pcell x)) (f : w.heap.size ≤ g) (c : Pay B W x.A x.p.pay) : PkAt B w W (some ⟨g,0,none⟩) 1 [x]:=
  ⟨⟨by simpa using O,fun b a=>by simp at a; omega⟩,fun y d=>by obtain rfl:=List.mem_singleton.1 d; exact c⟩
section
variable {s : SA} {m : Ms} {on : Bool} {now : Int}
theorem Su (a : ¬ (m.qos = 0 ∧ on = true)) (b : m.qos < 1 ∨ 2 < m.qos) : sendS s m on now = (s,[]):=by rw [sendS,if_neg a,if_pos b]
end
end Go.Proofs.YtkdeedhjkjffpaaGreat
namespace Go.Proofs.YtkdeedhjkjffpaaGreat
open Go.RowKit Go.Hub
theorem Sv : ∀ {l : List Fc} {id k : Int}, ¬ Gu (l.map (·.id)) id k = -1 → ∃ (i : Nat) (x : Fc), Gu (l.map (·.id)) id k = k + i ∧ l[i]? = some x ∧ x.id = id
  | [],_,_,h=>absurd rfl h
  | y :: r,id,k,h=>by
    simp only [List.map_cons,Gu] at h ⊢
    by_cases hy : y.id = id
    · exact ⟨0,y,by rw [if_pos hy]; simp,rfl,hy⟩
    rw [if_neg hy] at h ⊢
    obtain ⟨i,x,h1,h2,h3⟩:=Sv h
    exact ⟨i + 1,x,by rw [h1]; omega,by simpa using h2,h3⟩
theorem x5t {l : List Fc} {id : Int} (h : ¬ Gu (l.map (·.id)) id 0 < 0) : ∃ (i : Nat) (x : Fc),Gu (l.map (·.id)) id 0 = i ∧ l[i]? = some x ∧ x.id = id:=by
  obtain ⟨i,x,b,a⟩:=Sv (l:=l) (id:=id) (k:=0) (by omega);exact ⟨i,x,by omega,a⟩
theorem y3s {l : List Fc} {i : Nat} {f' : Fc} (h : i < l.length) : (l.set i f')[i]? = some f':=by simp [h]
theorem x5u {α : Type} {l : List α} {i : Nat} {v : α} (h : l[i]? = some v) : l.set i v = l:=by
  apply List.ext_getElem?
  intro j;rw [List.getElem?_set]
  by_cases a : i = j
  · subst a
    rw [if_pos rfl,if_pos (List.getElem?_eq_some_iff.1 h).1,h]
  rw [if_neg a]
end Go.Proofs.YtkdeedhjkjffpaaGreat
namespace Go.Proofs.YtkdeedhjkjffpaaGreat
open Go.RowKit Go.Hub Go.Lib
def Jf (l : FE) : Prop:=l.Pairwise fun p q=>I4 p.1 q.1
def Gv : FE → ByteArray → Int → FE
  | [],f,q=>[(f,q)]
  | p :: r,f,q=>if I4 p.1 f then p :: Gv r f q else if p.1 = f then (f,q) :: r else (f,q) :: p :: r
def Sx (l : FE) (f : ByteArray) : FE:=l.filter fun p=>!decide (p.1 = f)
def Ng (l : FE) (f : ByteArray) : Bool:=l.any fun p=>decide (p.1 = f)
def okF (f : ByteArray) (q : Int) : Prop:=Bp f = true ∧ 0 ≤ q ∧ q ≤ 2
section
variable {l : FE} {f : ByteArray} {q : Int} {k : Nat} {x : ByteArray × Int}
theorem Y0 : ∀ {l : FE} {k : Nat}, (∀ p ∈ l.take k, I4 p.1 f) → l[k]? = some x → x.1 = f → Gv l f q = l.set k (f, q)
  | [],k,_,h,_=>by simp at h
  | p :: r,0,_,h,e=>by
    obtain rfl : p = x:=by simpa using h
    have a : ¬ I4 p.1 f:=by rw [e]; exact D3 _
    rw [Gv,if_neg a,if_pos e]
    rfl
  | p :: r,k + 1,h1,h,e=>by
    rw [Gv,if_pos (h1 p (by simp)),Y0 (k:=k) (fun y b=>h1 y (by simp [b])) (by simpa using h) e]
    rfl
theorem Im : ∀ {l : FE} {k : Nat}, (∀ p ∈ l.take k, I4 p.1 f) → (∀ x, l[k]? = some x → ¬ I4 x.1 f ∧ x.1 ≠ f) → k ≤ l.length → Gv l f q = l.take k ++ (f, q) :: l.drop k
  | [], k, _, _, hk => by obtain rfl : k = 0 := by simpa using hk
                          rfl
  | p :: r,0,_,h,_=>by
    obtain ⟨a,c⟩:=h p (by simp)
    rw [Gv,if_neg a,if_neg c]
    rfl
  | p :: r,k + 1,a,h,hk=>by
    rw [Gv,if_pos (a p (by simp)),Im (k:=k) (fun y b=>a y (by simp [b])) (fun y b=>h y (by simpa using b)) (by simpa using hk)]
    rfl
theorem Xh (h : l[k]? = some x) (e : x.1 = f) : Ng l f = true:=List.any_eq_true.2 ⟨x,List.mem_of_getElem? h,by simpa using e⟩
theorem x5v (g : Jf l) (h : l[k]? = some x) {j : Nat} (i : k < j) {y : ByteArray × Int} (m : l[j]? = some y) : I4 x.1 y.1:=by
  obtain ⟨a,b⟩:=List.getElem?_eq_some_iff.1 h;obtain ⟨c,d⟩:=List.getElem?_eq_some_iff.1 m;have:=List.pairwise_iff_getElem.1 g k j a c i;rw [b,d] at this;exact this
theorem Tx (o : Jf l) (m : ∀ p ∈ l.take k,I4 p.1 f) (c : ∀ x,l[k]? = some x → ¬ I4 x.1 f ∧ x.1 ≠ f) : Ng l f = false:=by
  rw [Ng,List.any_eq_false];intro y t;obtain ⟨j,r,e⟩:=List.mem_iff_getElem.1 t;have a : l[j]? = some y:=by rw [List.getElem?_eq_getElem r,e]
  simp only [decide_eq_true_eq];intro b
  rcases Nat.lt_trichotomy j k with h | h | h
  · have : y ∈ l.take k := List.mem_of_getElem? (i := j) (by rw [List.getElem?_take_of_lt h]; exact a)
    have:=m y this;rw [b] at this;exact D3 _ this
  · subst h
    exact (c y a).2 b
  have s : k < l.length:=by omega
  have g:=List.getElem?_eq_getElem s;obtain ⟨n,u⟩:=c _ g;have d:=x5v o g h a;rw [b] at d;exact n d
theorem Ty (h : ∀ p ∈ l,p.1 ≠ f) : Sx l f = l:=List.filter_eq_self.2 fun p a=>by simpa using h p a
theorem Xi {p : ByteArray × Int} {r : FE} (a : Jf (p :: r)) : ∀ y ∈ r,y.1 ≠ p.1:=fun y b e=>by
  have:=(List.pairwise_cons.1 a).1 y b
  rw [e] at this
  exact D3 _ this
theorem Vf : ∀ {l : FE} {k : Nat}, Jf l → l[k]? = some x → x.1 = f → l.eraseIdx k = Sx l f
  | [],k,_,h,_=>by simp at h
  | p :: r,0,hA,h,e=>by
    obtain rfl : p = x:=by simpa using h
    rw [Sx,List.filter_cons,if_neg (by simpa using e)]
    have : Sx r f = r:=Ty (e ▸ Xi hA)
    rw [Sx] at this
    rw [this]
    rfl
  | p :: r,k + 1,hA,h,e=>by
    have c : x ∈ r:=List.mem_of_getElem? (by simpa using h)
    have a : p.1 ≠ f:=fun b=>Xi hA x c (by rw [e,b])
    rw [Sx,List.filter_cons,if_pos (by simpa using a),List.eraseIdx_cons_succ,Vf (List.pairwise_cons.1 hA).2 (by simpa using h) e]
    rfl
variable {E : FE}
end
end Go.Proofs.YtkdeedhjkjffpaaGreat
namespace Go.Proofs.YtkdeedhjkjffpaaGreat
open Go.RowKit Go.Hub
abbrev scp (p : ByteArray × Int) : List Value:=[.string p.1,.int .i64 p.2]
theorem Y1 {M : Type} {cell : M → List Value} {w : World} {g t : Nat} (m : M) (B : Blk w g t (cell m).toArray) : Sl w (some ⟨g,0,none⟩) 1 (cell m).length ([m].flatMap cell):=
  ⟨by simp,fun _=>⟨g,0,rfl,B.lt,fun j u a=>by rw [Nat.zero_add]; exact B.cell_ (by simpa using a)⟩⟩
theorem Y2 (x : ByteArray × Int) : (scp x).length = 2:=rfl
theorem Dk (l : FE) : ∀ u ∈ l.flatMap scp,u.oneCell' = true:=fun u b=>by
  obtain ⟨x,_,a⟩:=List.mem_flatMap.1 b
  simp only [scp,List.mem_cons,List.not_mem_nil,or_false] at a
  rcases a with rfl | rfl <;> rfl
end Go.Proofs.YtkdeedhjkjffpaaGreat
