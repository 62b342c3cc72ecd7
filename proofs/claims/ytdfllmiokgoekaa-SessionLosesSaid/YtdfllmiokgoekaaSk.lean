/- Contracts: done, again. -/
import Derived.Test.YtdfllmiokgoekaaSj
set_option linter.all false
namespace Go.Proofs.Ytdfllmiokgoekaa
open Go.RowKit Go.Hub
theorem wsz3_j : (Try.prog.info? 3).map (·.size) = some 1 := by kernel_rfl
theorem wsz50_j : (Try.prog.info? 50).map (·.size) = some 1 := by kernel_rfl
theorem wsz55_j : (Try.prog.info? 55).map (·.size) = some 1 := by kernel_rfl
theorem wsz61_j : (Try.prog.info? 61).map (·.size) = some 7 := by kernel_rfl
theorem wzib35_j : (Try.prog.info? 35).map (fun i => (i.zero, i.size, i.bytes)) = some (some (.agg #[(.int .i64 0), (.bool false), (.bool false), (.int .i64 0), (.int .i64 0), (.string ⟨#[]⟩), (.slice none 0 0), (.int .i64 0), (.string ⟨#[]⟩), (.bool false), (.int .i64 0), (.bool false), (.string ⟨#[]⟩), (.slice none 0 0), (.int .i64 0), (.bool false), (.bool false), (.bool false), (.string ⟨#[]⟩), (.slice none 0 0), (.bool false), (.int .i64 0), (.slice none 0 0), (.slice none 0 0)]), 24, 288) := by kernel_rfl
theorem wsz4_j : (Try.prog.info? 4).map (·.size) = some 1 := by kernel_rfl
theorem wsz43_j : (Try.prog.info? 43).map (·.size) = some 4 := by kernel_rfl

theorem far_map {w : World} {e : TypeId} {size n c im : Nat} {A : Option Addr} {xs : List Value} (h : Own w e size (.slice A n c) n xs) (hm : MapB w im) : Far A [im] := fun a ha hx => by
  obtain ⟨_, cs, h2⟩ := h.blk a.block (by rw [ha]; rfl)
  simp only [List.mem_singleton] at hx
  rw [hx] at h2
  exact (Typ.not_map (T := [e]) ⟨cs, e, _, h2, by simp⟩) hm
theorem own_own {w : World} {e e' : TypeId} {size size' n n' c c' k k' : Nat} {A A' : Option Addr} {xs ys : List Value} (h : Own w e size (.slice A n c) k xs) (h' : Own w e' size' (.slice A' n' c') k' ys) (hne : e ≠ e') : ∀ b, (Value.slice A n c).ownBlock = some b → b ∉ (Value.slice A' n' c').ownBlock.toList := fun b hb hx => by
  obtain ⟨_, cs, h1⟩ := h.blk b hb
  obtain ⟨_, cs', h2⟩ := h'.blk b (by simpa using hx)
  rw [h1] at h2
  injection h2 with h2
  injection h2 with _ h3 _
  exact hne h3
theorem fly_cell {w : World} {A : Option Addr} {l : List Fc} {b off i o : Nat} {f : Fc} (SL : Sl w A l.length 7 (l.flatMap fcell)) (hA : A = some ⟨b, off, none⟩) (hf : l[i]? = some f) (j : Nat) {v : Value} (hv : (fcell f)[j]? = some v) (ho : o = off + i * 7 + j) : w.cell? ⟨b, o, none⟩ = some v := by
  subst ho
  have h := (List.getElem?_eq_some_iff.1 hf).1
  rw [Nat.add_assoc]
  exact SL.cell (by omega) hA (flat_at fcell 7 (fun _ => rfl) l i f hf j v hv)
theorem fly_cell' {w : World} {A : Option Addr} {dn rs : List Fc} {b off i o : Nat} {f f' : Fc} (SL : Sl w A (dn ++ f' :: rs).length 7 ((dn ++ f' :: rs).flatMap fcell)) (hA : A = some ⟨b, off, none⟩) (hf : (dn ++ f :: rs)[i]? = some f) (j : Nat) {v : Value} (hv : (fcell f')[j]? = some v) (ho : o = off + dn.length * 7 + j) : w.cell? ⟨b, o, none⟩ = some v :=
  fly_cell SL hA (i := dn.length) (f := f') (by simp) j hv ho
theorem fly_msg {w : World} {A : Option Addr} {dn rs : List Fc} {b off i o : Nat} {f f' : Fc} (SL : Sl w A (dn ++ f' :: rs).length 7 ((dn ++ f' :: rs).flatMap fcell)) (hA : A = some ⟨b, off, none⟩) (hf : (dn ++ f :: rs)[i]? = some f) (ho : o = off + dn.length * 7) : w.rangeAt b o (mcell f'.x) := fun j v hv => by
  refine fly_cell' SL hA hf j ?_ (by omega)
  match j, hv with
  | 0, hv | 1, hv | 2, hv | 3, hv => exact hv
  | j + 4, hv => simp at hv
theorem del_A (B : Nat) (A : Option Addr) (c i : Nat) (l : List Fc) (w : World) (O : Own w 61 7 (.slice A l.length c) l.length (l.flatMap fcell)) (hi : i < l.length) (hB : ∀ a, A = some a → B ≤ a.block) :
    Calls Try.prog 36 #[.slice A l.length c, .int .i64 i, .int .i64 (i + 1)] w fun e w' => e = .returned (.slice A (l.eraseIdx i).length c) ∧ Own w' 61 7 (.slice A (l.eraseIdx i).length c) (l.eraseIdx i).length ((l.eraseIdx i).flatMap fcell) ∧ Mod [61] [] B w w' := by
  obtain ⟨b, off, hA⟩ := (Sl.of_own O).addr (by omega)
  subst hA
  have h1 : ∀ u ∈ l.flatMap fcell, u.oneCell' = true := fun u hu => by
    obtain ⟨f, _, hu⟩ := List.mem_flatMap.1 hu
    simp only [fcell, List.mem_cons, List.not_mem_nil, or_false] at hu
    rcases hu with rfl | rfl | rfl | rfl | rfl | rfl | rfl <;> rfl
  refine (del_any b off l.length c i _ w O h1 hi).mono ?_
  rintro e w' ⟨rfl, h2, h3⟩
  have hl : (l.eraseIdx i).length = l.length - 1 := List.length_eraseIdx_of_lt hi
  have hx : (l.eraseIdx i).flatMap fcell = (l.flatMap fcell).take (i * 7) ++ (l.flatMap fcell).drop ((i + 1) * 7) := by
    rw [List.eraseIdx_eq_take_drop_succ, List.flatMap_append, flat_take fcell 7 (fun _ => rfl) l i, flat_drop fcell 7 (fun _ => rfl) l (i + 1)]
  rw [hl, hx]
  exact ⟨rfl, h2, .of_own1 rfl h3 O hB (by simp)⟩
theorem erase_perm {α : Type} {l : List α} {i : Nat} (h : i < l.length) : l.Perm (l[i] :: l.eraseIdx i) := by
  rw [List.eraseIdx_eq_take_drop_succ]
  have h1 : l = l.take i ++ l[i] :: l.drop (i + 1) := by rw [← List.drop_eq_getElem_cons h, List.take_append_drop]
  exact (List.Perm.of_eq h1).trans List.perm_middle
theorem erase_map {α β : Type} (f : α → β) (l : List α) (i : Nat) : (l.eraseIdx i).map f = (l.map f).eraseIdx i := by
  rw [List.eraseIdx_eq_take_drop_succ, List.eraseIdx_eq_take_drop_succ, List.map_append, List.map_take, List.map_drop]
theorem done_ses {B p i : Nat} {s : Ses} {f : Fc} {w W : World} (hS : SesAt B w p s) (hf : s.fly[i]? = some f) (HK : Mod [57, 69, 61] [s.im] B w W)
    (BP : Blk W p 57 #[.string s.cl, s.sv, .pointer (some ⟨s.ip, 0, none⟩), .slice s.FA (s.fly.eraseIdx i).length s.fc, .pointer (some ⟨s.q, 0, none⟩), .map (some s.gm)]) (IDN : IdsAt W s.ip s.im (s.used.erase f.id) 65535 s.taken)
    (RX : Own W 61 7 (.slice s.FA (s.fly.eraseIdx i).length s.fc) (s.fly.eraseIdx i).length ((s.fly.eraseIdx i).flatMap fcell)) : SesAt B W p { s with used := s.used.erase f.id, fly := s.fly.eraseIdx i } := by
  have hi := (List.getElem?_eq_some_iff.1 hf).1
  have hsub : ∀ g ∈ s.fly.eraseIdx i, g ∈ s.fly := fun g hg => List.mem_of_mem_eraseIdx hg
  refine ⟨BP, hS.one, IDN, hS.qu.mod HK (by decide), ⟨RX, fun g hg => (hS.fly.pay g (hsub g hg)).mod HK (by decide), hS.fly.loA, ?_⟩, hS.got.mod HK (by simpa using Ne.symm hS.ne), hS.ne, hS.lop, hS.loi, hS.lom, hS.log, hS.tk, ?_, fun g hg => hS.ats g (hsub g hg), fun g hg => hS.idb g (hsub g hg)⟩
  · have := hS.fly.len
    show (s.fly.eraseIdx i).length ≤ 4
    rw [List.length_eraseIdx_of_lt hi]
    omega
  · show (s.used.erase f.id).Perm ((s.fly.eraseIdx i).map (·.id))
    have h1 : (s.fly.map (·.id)).Perm (f.id :: (s.fly.eraseIdx i).map (·.id)) := by
      obtain ⟨h2, h3⟩ := List.getElem?_eq_some_iff.1 hf
      have h4 : s.fly.Perm (s.fly[i] :: s.fly.eraseIdx i) := erase_perm h2
      rw [h3] at h4
      exact h4.map (·.id)
    have h5 := ((hS.perm.trans h1).erase f.id)
    simpa using h5
theorem done_abs {s : Ses} {i : Nat} {f : Fc} {now : Int} (hf : s.fly[i]? = some f) : drainS (Ses.abs { s with used := s.used.erase f.id, fly := s.fly.eraseIdx i }) now = doneS s.abs i f.id now := by
  unfold doneS Ses.abs
  simp [erase_map]
def DonePost (B p : Nat) (s : Ses) (i : Nat) (id now : Int) (w : World) (e : Ending) (w' : World) : Prop :=
  ∃ s' A c pks, e = .returned (.slice A pks.length c) ∧ SesAt B w' p s' ∧ s'.abs = (doneS s.abs i id now).1 ∧ pks.map (·.p) = (doneS s.abs i id now).2 ∧ s.Like s' ∧ Mod [57, 69, 61, 72] [s.im] B w w' ∧ PkAt B w w' A c pks
def AgainPost (B p : Nat) (s : Ses) (now ago : Int) (w : World) (e : Ending) (w' : World) : Prop :=
  ∃ s' A c pks, e = .returned (.slice A pks.length c) ∧ SesAt B w' p s' ∧ s'.abs = (againS s.abs now ago).1 ∧ pks.map (·.p) = (againS s.abs now ago).2 ∧ s.Like s' ∧ Mod [61] [] B w w' ∧ PkAt B w w' A c pks ∧ pks.length ≤ 4
theorem drop_at {l rs : List Fc} {k : Nat} {f : Fc} (h : rs = l.drop k) (hf : l[k]? = some f) : ∃ rs', rs' = l.drop (k + 1) ∧ rs = f :: rs' := by
  obtain ⟨h1, h2⟩ := List.getElem?_eq_some_iff.1 hf
  exact ⟨_, rfl, by rw [h, List.drop_eq_getElem_cons h1, h2]⟩
section
variable {now ago : Int} {f : Fc} {dn rs' l : List Fc} {pks : List Pc} {k : Nat}
theorem again_skip (h : nearI now - f.at_ < ago) : (dn.map Fc.abs ++ (againF now ago ((f :: rs').map Fc.abs)).1, pks.map (·.p) ++ (againF now ago ((f :: rs').map Fc.abs)).2) = ((dn ++ [f]).map Fc.abs ++ (againF now ago (rs'.map Fc.abs)).1, pks.map (·.p) ++ (againF now ago (rs'.map Fc.abs)).2) := by
  rw [List.map_cons, againF, if_pos (show nearI now - f.abs.at_ < ago from h)]
  simp
theorem again_do {x : Pc} (h : ¬ nearI now - f.at_ < ago) (hx : (if f.rc = true then ackP 6 f.id else pubP f.x.m f.id true) = x.p) : (dn.map Fc.abs ++ (againF now ago ((f :: rs').map Fc.abs)).1, pks.map (·.p) ++ (againF now ago ((f :: rs').map Fc.abs)).2) = ((dn ++ [{ f with at_ := nearI now }]).map Fc.abs ++ (againF now ago (rs'.map Fc.abs)).1, (pks ++ [x]).map (·.p) ++ (againF now ago (rs'.map Fc.abs)).2) := by
  have hx' : (if f.abs.rc = true then ackP 6 f.abs.id else pubP f.abs.m f.abs.id true) = x.p := hx
  rw [List.map_cons, againF, if_neg (show ¬ nearI now - f.abs.at_ < ago from h), hx']
  simp [Fc.abs]
theorem again_ids {f' : Fc} (h : dn.map (·.id) = (l.take k).map (·.id)) (hf : l[k]? = some f) (hi : f'.id = f.id) : (dn ++ [f']).map (·.id) = (l.take (k + 1)).map (·.id) := by
  rw [List.map_append, h, List.take_succ, hf, List.map_append]
  simp [hi]
theorem again_ats {f' : Fc} (h : ∀ f ∈ dn, -1099511627776 ≤ f.at_ ∧ f.at_ ≤ 1099511627776) (h' : -1099511627776 ≤ f'.at_ ∧ f'.at_ ≤ 1099511627776) : ∀ f ∈ dn ++ [f'], -1099511627776 ≤ f.at_ ∧ f.at_ ≤ 1099511627776 := fun g hg => by
  rcases List.mem_append.1 hg with hg | hg
  · exact h g hg
  · obtain rfl := List.mem_singleton.1 hg
    exact h'
end
theorem FlyAt.seg {B : Nat} {w w' : World} {A : Option Addr} {c k : Nat} {dn rs : List Fc} {f f' : Fc} {v : Value} (h : FlyAt B w A c (dn ++ f :: rs)) (hf : (dn ++ f :: rs)[k]? = some f) (hm : Mod [61] [] B w w') (hk : dn.length = k) (O : Own w' 61 7 (.slice A (dn ++ f :: rs).length c) (dn ++ f :: rs).length (((dn ++ f :: rs).flatMap fcell).set (k * 7 + 5) v)) (hv : fcell f' = (fcell f).set 5 v) (hp : f'.x = f.x) : FlyAt B w' A c (dn ++ f' :: rs) := by
  subst hk
  have hx : ((dn ++ f :: rs).flatMap fcell).set (dn.length * 7 + 5) v = (dn ++ f' :: rs).flatMap fcell := by
    rw [List.flatMap_append, List.flatMap_append, List.set_append_right _ _ (by rw [fcell_len]; omega), fcell_len, List.flatMap_cons, List.flatMap_cons, show dn.length * 7 + 5 - dn.length * 7 = 5 by omega, List.set_append_left _ _ (by simp), hv]
  have hl : (dn ++ f :: rs).length = (dn ++ f' :: rs).length := by simp
  rw [hx, hl] at O
  refine ⟨O, fun g hg => ?_, h.loA, by rw [← hl]; exact h.len⟩
  rcases List.mem_append.1 hg with hg | hg
  · exact (h.pay g (List.mem_append_left _ hg)).mod hm (by decide)
  · rcases List.mem_cons.1 hg with rfl | hg
    · rw [hp]; exact (h.pay f (by simp)).mod hm (by decide)
    · exact (h.pay g (by simp [hg])).mod hm (by decide)
theorem again_fin {B p k : Nat} {s : Ses} {now ago : Int} {w W : World} {dn rs : List Fc} {Ao : Option Addr} {co : Nat} {pks : List Pc} (hS : SesAt B w p s) (hrs : rs = s.fly.drop k) (FL : FlyAt B W s.FA s.fc (dn ++ rs)) (hq : againF now ago (s.fly.map Fc.abs) = (dn.map Fc.abs ++ (againF now ago (rs.map Fc.abs)).1, pks.map (·.p) ++ (againF now ago (rs.map Fc.abs)).2)) (hids : dn.map (·.id) = (s.fly.take k).map (·.id)) (hats : ∀ f ∈ dn, -1099511627776 ≤ f.at_ ∧ f.at_ ≤ 1099511627776)
    (PK : PkAt B w W Ao co pks) (HK : Mod [61] [] B w W) (BP : Blk W p 57 s.cells) (h : s.fly.length ≤ k ∧ pks.length ≤ 4) : AgainPost B p s now ago w (.returned (.slice Ao pks.length co)) W := by
  obtain rfl : rs = [] := by rw [hrs, List.drop_eq_nil_of_le h.1]
  rw [List.take_of_length_le h.1] at hids
  simp only [List.append_nil, List.map_nil, againF] at FL hq
  have hl : dn.length = s.fly.length := by have := congrArg List.length hids; simpa using this
  have hidb : ∀ f ∈ dn, 1 ≤ f.id ∧ f.id ≤ 65535 := fun f hf => by
    have : f.id ∈ s.fly.map (·.id) := hids ▸ List.mem_map_of_mem hf
    obtain ⟨g, hg, e⟩ := List.mem_map.1 this
    rw [← e]; exact hS.idb g hg
  refine ⟨{ s with fly := dn }, Ao, co, pks, rfl, ⟨?_, hS.one, hS.ids.mod HK (by decide) (by simp), hS.qu.mod HK (by decide), FL, hS.got.mod HK (by simp), hS.ne, hS.lop, hS.loi, hS.lom, hS.log, hS.tk, ?_, hats, hidb⟩, ?_, ?_, ⟨rfl, rfl, rfl⟩, HK, PK, h.2⟩
  · show Blk W p 57 #[.string s.cl, s.sv, .pointer (some ⟨s.ip, 0, none⟩), .slice s.FA dn.length s.fc, .pointer (some ⟨s.q, 0, none⟩), .map (some s.gm)]
    rw [hl]; exact BP
  · show s.used.Perm (dn.map (·.id))
    rw [hids]; exact hS.perm
  · unfold againS Ses.abs
    simp only
    rw [hq]
  · unfold againS Ses.abs
    simp only
    rw [hq]

set_option maxHeartbeats 1000000 in
theorem done_any (B p : Nat) (s : Ses) (i : Nat) (f : Fc) (now : Int) (w : World) (hS : SesAt B w p s) (hf : s.fly[i]? = some f) (hB : B ≤ w.heap.size) : Calls Try.prog 26 #[.pointer (some ⟨p, 0, none⟩), .int .i64 i, .int .i64 now] w (DonePost B p s i f.id now w) := by
  have HK : Mod [57, 69, 61, 72] [s.im] B w w := .refl _ _ _ _
  have HK1 : Mod [57, 69, 61] [s.im] B w w := .refl _ _ _ _
  have BP := hS.top
  have OWN := hS.fly.own
  have ID := hS.ids
  have SLF := Sl.of_own hS.fly.own
  have hi4 : i < s.fly.length := (List.getElem?_eq_some_iff.1 hf).1
  have hl4 := hS.fly.len
  obtain ⟨b, off, hA⟩ := SLF.addr (by omega)
  have hmap := hS.ids.set.map
  have hpim : p ≠ s.im := fun h => hS.top.not_map (h ▸ hmap)
  have hfar : Far s.FA [s.im] := far_map hS.fly.own hmap
  have hidb := hS.idb f (List.mem_of_getElem? hf)
  refine C.enter Try.func26 rfl Try.ntmps26 rfl ?_
  intro a0 f0
  have f1 : Fr 34 a0 [(0, .pointer (some ⟨p, 0, none⟩)), (1, .int .i64 i), (2, .int .i64 now)] := f0
  clear f0
  refine wp_seq_k fun K0 hK0 => ?_
  refine C.region ?_
  refine L.val f1 wantedN rfl (by decide) (E.assign f1 rfl) fun a2 f2 => ?_
  clear f1 a0
  refine wpList_nil (hK0 _ _ ?_)
  try clear hK0 K0
  have f3 := f2.sub (sub_cons (i := 0) rfl (sub_cons (i := 1) rfl (sub_cons (i := 2) rfl (sub_cons (i := 6) rfl sub_nil))))
  clear f2
  refine wp_seq_k fun K1 hK1 => ?_
  refine R.begin (S := fun W => Kept [s.im] w W) (by kernel_rfl) (by exact (Kept.refl _ _).drewN 1) ?_
  have hS1 : Kept [s.im] w (w.drewN 1) := (Kept.refl _ _).drewN 1
  have hd1 : Kept [] w (w.drewN 1) := (Kept.refl _ _).drewN 1
  obtain ⟨w1, hww1⟩ : ∃ W, W = w.drewN 1 := ⟨_, rfl⟩
  rw [← hww1] at hS1 hd1 ⊢
  clear hww1
  have szw1 := hS1.size
  replace ID := ID.kept hd1 (by simp) (by simp)
  refine R.take 0 f3 rfl rfl (by decide) (by kernel_rfl) (by kernel_rfl) (by kernel_rfl) (fun _ _ _ _ h => h) wantedN hS1 (fun W hW => (E.move f3 rfl)) fun a4 f4 => ?_
  clear f3 a2
  refine R.take 1 f4 rfl rfl (by decide) (by kernel_rfl) (by kernel_rfl) (by kernel_rfl) (fun _ _ _ _ h => h) wantedN hS1 (fun W hW => (E.nilCheck f4 rfl)) fun a5 f5 => ?_
  clear f4 a4
  refine R.take 2 f5 rfl rfl (by decide) (by kernel_rfl) (by kernel_rfl) (by kernel_rfl) (fun _ _ _ _ h => h) wantedN hS1 (fun W hW => (E.fieldAddr f5 Try.underlying57 rfl rfl wsz50_j)) fun a6 f6 => ?_
  clear f5 a5
  refine R.take 3 f6 rfl rfl (by decide) (by kernel_rfl) (by kernel_rfl) (by kernel_rfl) (fun _ _ _ _ h => h) wantedN hS1 (fun W hW => (by exact E.load f6 Try.underlying50 rfl rfl ((BP.kept hW (by simpa using hpim)).cl rfl))) fun a7 f7 => ?_
  clear f6 a6
  refine R.take 4 f7 rfl rfl (by decide) (by kernel_rfl) (by kernel_rfl) (by kernel_rfl) (fun _ _ _ _ h => h) wantedN hS1 (fun W hW => (E.move f7 rfl)) fun a8 f8 => ?_
  clear f7 a7
  refine R.take 5 f8 rfl rfl (by decide) (by kernel_rfl) (by kernel_rfl) (by kernel_rfl) (fun _ _ _ _ h => h) wantedN hS1 (fun W hW => (E.nilCheck f8 rfl)) fun a9 f9 => ?_
  clear f8 a8
  refine R.take 6 f9 rfl rfl (by decide) (by kernel_rfl) (by kernel_rfl) (by kernel_rfl) (fun _ _ _ _ h => h) wantedN hS1 (fun W hW => (E.fieldAddr f9 Try.underlying57 rfl rfl wsz55_j)) fun a10 f10 => ?_
  clear f9 a9
  refine R.take 7 f10 rfl rfl (by decide) (by kernel_rfl) (by kernel_rfl) (by kernel_rfl) (fun _ _ _ _ h => h) wantedN hS1 (fun W hW => (by exact E.load f10 Try.underlying55 rfl rfl ((BP.kept hW (by simpa using hpim)).cl rfl))) fun a11 f11 => ?_
  clear f10 a10
  refine R.take 8 f11 rfl rfl (by decide) (by kernel_rfl) (by kernel_rfl) (by kernel_rfl) (fun _ _ _ _ h => h) wantedN hS1 (fun W hW => (E.move f11 rfl)) fun a12 f12 => ?_
  clear f11 a11
  refine R.take 9 f12 rfl rfl (by decide) (by kernel_rfl) (by kernel_rfl) (by kernel_rfl) (fun _ _ _ _ h => h) wantedN hS1 (fun W hW => (E.indexA f12 (by first | rfl | assumption) Try.underlying55 wsz61_j rfl rfl (by omega) (by omega))) fun a13 f13 => ?_
  clear f12 a12
  refine R.take 10 f13 rfl rfl (by decide) (by kernel_rfl) (by kernel_rfl) (by kernel_rfl) (fun _ _ _ _ h => h) wantedN hS1 (fun W hW => (E.fieldAddr f13 Try.underlying61 rfl rfl wsz3_j)) fun a14 f14 => ?_
  clear f13 a13
  refine R.take 11 f14 rfl rfl (by decide) (by kernel_rfl) (by kernel_rfl) (by kernel_rfl) (fun _ _ _ _ h => h) wantedN hS1 (fun W hW => (E.load f14 Try.underlying3 rfl rfl (fly_cell (SLF.keptF hW hfar) hA hf 4 rfl (show off + i * 7 + 4 = _ by omega)))) fun a15 f15 => ?_
  clear f14 a14
  refine R.call 12 f15 rfl rfl (by decide) (by kernel_rfl) wantedN (run_call Try.call35 (args2 f15 rfl rfl)) (idsFree_any s.ip s.im s.used 65535 s.taken f.id _ ID (wf64 (by omega))) ?_
  rintro e w2 ⟨rfl, kc2, IDN⟩
  replace hS1 := hS1.trans kc2 (by simp)
  refine ⟨_, rfl, hS1, fun a16 f16 => ?_⟩
  clear f15 a15
  have szw2 := kc2.size
  clear kc2
  have szw2r := hS1.size
  have KM : Mod [] [s.im] B w w2 := Mod.of_kept hS1 (fun x hx _ => by obtain rfl := List.mem_singleton.1 hx; exact ⟨hS.lom, .inr ⟨hmap, by simp⟩⟩)
  replace HK := HK.step KM (by decide) (by simp) (by omega)
  replace HK1 := HK1.step KM (by decide) (by simp) (by omega)
  replace BP := BP.kept hS1 (by simpa using hpim)
  replace OWN := OWN.mod KM (by decide)
  clear hS1
  refine R.done (by kernel_rfl) (hK1 _ _ ?_)
  try clear hK1 K1
  have f17 := f16.sub (sub_cons (i := 0) rfl (sub_cons (i := 1) rfl (sub_cons (i := 2) rfl (sub_cons (i := 6) rfl sub_nil))))
  clear f16
  refine wp_seq_k fun K2 hK2 => ?_
  refine C.region ?_
  refine L.val f17 wantedN rfl (by decide) (E.move f17 rfl) fun a18 f18 => ?_
  clear f17 a16
  refine L.val f18 wantedN rfl (by decide) (E.move f18 rfl) fun a19 f19 => ?_
  clear f18 a18
  refine L.val f19 wantedN rfl (by decide) (E.nilCheck f19 rfl) fun a20 f20 => ?_
  clear f19 a19
  refine L.val f20 wantedN rfl (by decide) (E.fieldAddr f20 Try.underlying57 rfl rfl wsz55_j) fun a21 f21 => ?_
  clear f20 a20
  refine L.val f21 wantedN rfl (by decide) (by exact E.load f21 Try.underlying55 rfl rfl ((BP).cl rfl)) fun a22 f22 => ?_
  clear f21 a21
  refine L.val f22 wantedN rfl (by decide) (E.move f22 rfl) fun a23 f23 => ?_
  clear f22 a22
  refine L.val f23 wantedN rfl (by decide) (E.move f23 rfl) fun a24 f24 => ?_
  clear f23 a23
  refine L.val f24 wantedN rfl (by decide) (E.add f24 rfl rfl (IntWalk.i64_in _ (by omega))) fun a25 f25 => ?_
  clear f24 a24
  refine L.call f25 wantedN rfl (by decide) (run_call Try.call36 (args3 f25 rfl rfl rfl)) (del_A B s.FA s.fc i s.fly _ OWN hi4 hS.fly.loA) ?_
  rintro e w3 ⟨rfl, RX, kc3⟩
  refine ⟨_, rfl, fun a26 f26 => ?_⟩
  clear f25 a25
  have szw3 := kc3.size
  replace HK := HK.step kc3 (by decide) (by simp) (by omega)
  replace HK1 := HK1.step kc3 (by decide) (by simp) (by omega)
  replace BP := BP.mod kc3 (by decide)
  replace IDN := IDN.mod kc3 (by decide) (by simp)
  clear kc3
  refine L.val f26 wantedN rfl (by decide) (E.nilCheck f26 rfl) fun a27 f27 => ?_
  clear f26 a26
  refine L.val f27 wantedN rfl (by decide) (E.fieldAddr f27 Try.underlying57 rfl rfl wsz55_j) fun a28 f28 => ?_
  clear f27 a27
  refine L.store f28 wantedN wsz55_j rfl rfl rfl BP (by first | decide | (simp [Value.cells]; done)) fun a29 w4 f29 NB4 ks4 => ?_
  have szw4 := ks4.size
  have KM := (Mod.of_blk (T := [57]) (M := []) (B := B) ks4 BP hS.lop (by simp))
  replace HK := HK.step KM (by decide) (by simp) (by omega)
  replace HK1 := HK1.step KM (by decide) (by simp) (by omega)
  replace IDN := IDN.mod KM (by decide) (by simp)
  replace RX := RX.mod KM (by decide)
  replace BP := NB4
  simp only [Value.cells, List.setIfInBounds_toArray, List.set_cons_zero, List.set_cons_succ, Nat.reduceAdd, Nat.zero_add] at BP
  clear ks4 f28 a28
  refine wpList_nil (hK2 _ _ ?_)
  try clear hK2 K2
  have f30 := f29.sub (sub_cons (i := 0) rfl (sub_cons (i := 2) rfl (sub_cons (i := 6) rfl sub_nil)))
  clear f29
  refine wp_seq_k fun K3 hK3 => ?_
  refine C.region ?_
  refine L.val f30 wantedN rfl (by decide) (E.move f30 rfl) fun a31 f31 => ?_
  clear f30 a29
  refine L.val f31 wantedN rfl (by decide) (E.move f31 rfl) fun a32 f32 => ?_
  clear f31 a31
  have HD := done_ses hS hf HK1 BP IDN RX
  refine L.call f32 wantedN rfl (by decide) (run_call Try.call34 (args2 f32 rfl rfl)) (drain_any B p _ now _ HD (by omega)) ?_
  rintro e w5 ⟨s2, A2, c2, pks, rfl, HS2, hab, hpp, hL2, kc5, PK⟩
  replace kc5 : Mod [57, 69, 61, 72] [s.im] B _ _ := kc5
  refine ⟨_, rfl, fun a33 f33 => ?_⟩
  clear f32 a32
  have szw5 := kc5.size
  replace HK := HK.step kc5 (by decide) (by simp) (by omega)
  clear kc5
  refine L.val f33 wantedN rfl (by decide) (E.assign f33 rfl) fun a34 f34 => ?_
  clear f33 a33
  refine wpList_nil (hK3 _ _ ?_)
  try clear hK3 K3
  have f35 := f34.sub (sub_cons (i := 6) rfl sub_nil)
  clear f34
  refine wp_ret ?_
  try simp only [Exit.inBlock, Exit.then]
  refine C.ret (P := Try.prog) (fn := Try.f26) f35 rfl rfl ?_
  exact ⟨s2, A2, c2, pks, rfl, HS2, by rw [hab, done_abs hf], by rw [hpp, done_abs hf], ⟨hL2.im, hL2.gm, hL2.cl⟩, HK, PK.lower (by omega)⟩

set_option maxHeartbeats 1000000 in
theorem again_any (B p : Nat) (s : Ses) (now ago : Int) (w : World) (hS : SesAt B w p s) (hB : B ≤ w.heap.size) : Calls Try.prog 33 #[.pointer (some ⟨p, 0, none⟩), .int .i64 now, .int .i64 ago] w (AgainPost B p s now ago w) := by
  have HK : Mod [61] [] B w w := .refl _ _ _ _
  have BP := hS.top
  have hl4 := hS.fly.len
  refine C.enter Try.func33 rfl Try.ntmps33 rfl ?_
  intro a0 f0
  have f1 : Fr 63 a0 [(0, .pointer (some ⟨p, 0, none⟩)), (1, .int .i64 now), (2, .int .i64 ago)] := f0
  clear f0
  refine wp_seq_k fun K0 hK0 => ?_
  refine C.region ?_
  refine L.val f1 wantedN rfl (by decide) (E.assign f1 rfl) fun a2 f2 => ?_
  clear f1 a0
  refine wpList_nil (hK0 _ _ ?_)
  try clear hK0 K0
  have f3 := f2.sub (sub_cons (i := 0) rfl (sub_cons (i := 1) rfl (sub_cons (i := 2) rfl (sub_cons (i := 6) rfl sub_nil))))
  clear f2
  refine wp_seq_k fun K1 hK1 => ?_
  refine C.region ?_
  refine L.val f3 wantedN rfl (by decide) (E.assign f3 rfl) fun a4 f4 => ?_
  clear f3 a2
  refine wpList_nil (hK1 _ _ ?_)
  try clear hK1 K1
  have f5 := f4.sub (sub_cons (i := 0) rfl (sub_cons (i := 1) rfl (sub_cons (i := 2) rfl (sub_cons (i := 6) rfl (sub_cons (i := 7) rfl sub_nil)))))
  clear f4
  refine wp_seq_k fun K2 hK2 => ?_
  refine wp_seq_k fun K3 hK3 => ?_
  refine C.region ?_
  refine L.val f5 wantedN rfl (by decide) (E.move f5 rfl) fun a6 f6 => ?_
  clear f5 a4
  refine L.val f6 wantedN rfl (by decide) (E.nilCheck f6 rfl) fun a7 f7 => ?_
  clear f6 a6
  refine L.val f7 wantedN rfl (by decide) (E.fieldAddr f7 Try.underlying57 rfl rfl wsz55_j) fun a8 f8 => ?_
  clear f7 a7
  refine L.val f8 wantedN rfl (by decide) (by exact E.load f8 Try.underlying55 rfl rfl ((BP).cl rfl)) fun a9 f9 => ?_
  clear f8 a8
  refine L.val f9 wantedN rfl (by decide) (E.lenL f9 Try.underlying55 rfl) fun a10 f10 => ?_
  clear f9 a9
  refine L.val f10 wantedN rfl (by decide) (E.move f10 rfl) fun a11 f11 => ?_
  clear f10 a10
  refine wpList_nil (hK3 _ _ ?_)
  try clear hK3 K3
  have f12 := f11.sub (sub_cons (i := 0) rfl (sub_cons (i := 1) rfl (sub_cons (i := 2) rfl (sub_cons (i := 6) rfl (sub_cons (i := 7) rfl (sub_cons (i := 14) rfl (sub_cons (i := 15) rfl sub_nil)))))))
  clear f11
  refine wp_block ?_
  refine C.loop (fun gk a W => ∃ (k : Nat) (dn rs : List Fc) (Ao : Option Addr) (co : Nat) (pks : List Pc), k + gk = s.fly.length ∧ dn.length = k ∧ rs = s.fly.drop k ∧ FlyAt B W s.FA s.fc (dn ++ rs) ∧ againF now ago (s.fly.map Fc.abs) = (dn.map Fc.abs ++ (againF now ago (rs.map Fc.abs)).1, pks.map (·.p) ++ (againF now ago (rs.map Fc.abs)).2) ∧ dn.map (·.id) = (s.fly.take k).map (·.id) ∧ (∀ f ∈ dn, -1099511627776 ≤ f.at_ ∧ f.at_ ≤ 1099511627776) ∧ PkAt B w W Ao co pks ∧ pks.length ≤ k ∧ Mod [61] [] B w W ∧ Blk W p 57 s.cells ∧ Fr 63 a [(0, .pointer (some ⟨p, 0, none⟩)), (1, .int .i64 now), (2, .int .i64 ago), (7, .slice Ao pks.length co), (14, .int .i64 s.fly.length), (15, .int .i64 k)]) (s.fly.length) ?_ ?_
  · exact ⟨0, [], s.fly, none, 0, [], by omega, rfl, rfl, hS.fly, by simp, rfl, by simp, PkAt.nil _ _ _, by simp, HK, BP, f12.sub (sub_cons rfl (sub_cons rfl (sub_cons rfl (sub_cons rfl (sub_cons rfl (sub_cons rfl sub_nil))))))⟩
  · intro gk5 a13 w1 hI KL4 hKL4
    obtain ⟨k, dn, rs, Ao, co, pks, hk, hdk, hrs, FL, hq, hids, hats, PK, hpk, HK, BP, f13⟩ := hI
    try clear f12
    have szw1x := HK.size
    refine wp_seq_k fun K5 hK5 => ?_
    refine C.region ?_
    refine L.val f13 wantedN rfl (by decide) (E.lss f13 rfl rfl) fun a14 f14 => ?_
    clear f13 a13
    refine wpList_nil (hK5 _ _ ?_)
    try clear hK5 K5
    have f15 := f14.sub (sub_cons (i := 0) rfl (sub_cons (i := 1) rfl (sub_cons (i := 2) rfl (sub_cons (i := 7) rfl (sub_cons (i := 14) rfl (sub_cons (i := 15) rfl (sub_cons (i := 16) rfl sub_nil)))))))
    clear f14
    refine wp_seq_k fun K6 hK6 => ?_
    first | refine f15.splitD 16 rfl (fun h0 f16 => ?_) (fun h0 f16 => ?_) | refine f15.splitN 16 rfl (fun h0 f16 => ?_) (fun h0 f16 => ?_) | refine f15.splitNB 16 rfl (fun h0 f16 => ?_) (fun h0 f16 => ?_) | refine f15.split 16 rfl (fun h0 f16 => ?_) (fun h0 f16 => ?_)
    · clear f15
      obtain ⟨f, hfs⟩ : ∃ f, s.fly[k]? = some f := ⟨s.fly[k]'(by omega), List.getElem?_eq_getElem _⟩
      have hfm := List.mem_of_getElem? hfs
      obtain ⟨rs', hrs', hrs0⟩ := drop_at hrs hfs
      subst hrs0
      have hf : (dn ++ f :: rs')[k]? = some f := by rw [← hdk]; simp
      have hlen : (dn ++ f :: rs').length = s.fly.length := by simp; have := congrArg List.length hrs'; simp at this; omega
      obtain ⟨b, off, hA⟩ := (Sl.of_own FL.own).addr (by omega)
      have hats0 := hS.ats f hfm
      have hnb := near_bd now
      refine C.condT f16 rfl ?_
      refine wp_skip (hK6 _ _ ?_)
      try clear hK6 K6
      have f17 := f16.sub (sub_cons (i := 0) rfl (sub_cons (i := 1) rfl (sub_cons (i := 2) rfl (sub_cons (i := 7) rfl (sub_cons (i := 14) rfl (sub_cons (i := 15) rfl (sub_cons (i := 16) rfl sub_nil)))))))
      clear f16
      refine wp_seq_k fun K7 hK7 => ?_
      refine wp_block ?_
      refine wp_seq_k fun K8 hK8 => ?_
      refine C.region ?_
      refine L.val f17 wantedN rfl (by decide) (E.move f17 rfl) fun a18 f18 => ?_
      clear f17 a14
      refine L.val f18 wantedN rfl (by decide) (E.assign f18 rfl) fun a19 f19 => ?_
      clear f18 a18
      refine wpList_nil (hK8 _ _ ?_)
      try clear hK8 K8
      have f20 := f19.sub (sub_cons (i := 0) rfl (sub_cons (i := 1) rfl (sub_cons (i := 2) rfl (sub_cons (i := 7) rfl (sub_cons (i := 8) rfl (sub_cons (i := 14) rfl (sub_cons (i := 15) rfl (sub_cons (i := 16) rfl (sub_cons (i := 17) rfl sub_nil)))))))))
      clear f19
      refine wp_seq_k fun K9 hK9 => ?_
      refine C.region ?_
      refine L.val f20 wantedN rfl (by decide) (E.move f20 rfl) fun a21 f21 => ?_
      clear f20 a19
      refine L.val f21 wantedN rfl (by decide) (E.nilCheck f21 rfl) fun a22 f22 => ?_
      clear f21 a21
      refine L.val f22 wantedN rfl (by decide) (E.fieldAddr f22 Try.underlying57 rfl rfl wsz55_j) fun a23 f23 => ?_
      clear f22 a22
      refine L.val f23 wantedN rfl (by decide) (by exact E.load f23 Try.underlying55 rfl rfl ((BP).cl rfl)) fun a24 f24 => ?_
      clear f23 a23
      refine L.val f24 wantedN rfl (by decide) (E.move f24 rfl) fun a25 f25 => ?_
      clear f24 a24
      refine L.val f25 wantedN rfl (by decide) (E.indexA f25 (by first | rfl | assumption) Try.underlying55 wsz61_j rfl rfl (by omega) (by omega)) fun a26 f26 => ?_
      clear f25 a25
      refine L.val f26 wantedN rfl (by decide) (E.assign f26 rfl) fun a27 f27 => ?_
      clear f26 a26
      refine wpList_nil (hK9 _ _ ?_)
      try clear hK9 K9
      have f28 := f27.sub (sub_cons (i := 0) rfl (sub_cons (i := 1) rfl (sub_cons (i := 2) rfl (sub_cons (i := 7) rfl (sub_cons (i := 8) rfl (sub_cons (i := 9) rfl (sub_cons (i := 14) rfl (sub_cons (i := 15) rfl (sub_cons (i := 16) rfl (sub_cons (i := 17) rfl (sub_cons (i := 18) rfl (sub_cons (i := 19) rfl (sub_cons (i := 20) rfl (sub_cons (i := 21) rfl (sub_cons (i := 22) rfl (sub_cons (i := 23) rfl sub_nil))))))))))))))))
      clear f27
      refine wp_seq_k fun K10 hK10 => ?_
      refine wp_seq_k fun K11 hK11 => ?_
      refine R.begin (S := fun W => Kept [] w1 W) (by kernel_rfl) (by exact (Kept.refl _ _).drewN 1) ?_
      have hS6 : Kept [] w1 (w1.drewN 1) := (Kept.refl _ _).drewN 1
      have hd6 : Kept [] w1 (w1.drewN 1) := (Kept.refl _ _).drewN 1
      obtain ⟨w2, hww2⟩ : ∃ W, W = w1.drewN 1 := ⟨_, rfl⟩
      rw [← hww2] at hS6 hd6 ⊢
      clear hww2
      have szw2 := hS6.size
      refine R.take 0 f28 rfl rfl (by decide) (by kernel_rfl) (by kernel_rfl) (by kernel_rfl) (fun _ _ _ _ h => h) wantedN hS6 (fun W hW => (E.move f28 rfl)) fun a29 f29 => ?_
      clear f28 a27
      refine R.take 2 f29 rfl rfl (by decide) (by kernel_rfl) (by kernel_rfl) (by kernel_rfl) (fun _ _ _ _ h => h) wantedN hS6 (fun W hW => (E.move f29 rfl)) fun a30 f30 => ?_
      clear f29 a29
      refine R.take 3 f30 rfl rfl (by decide) (by kernel_rfl) (by kernel_rfl) (by kernel_rfl) (fun _ _ _ _ h => h) wantedN hS6 (fun W hW => (E.nilCheck f30 rfl)) fun a31 f31 => ?_
      clear f30 a30
      refine R.take 4 f31 rfl rfl (by decide) (by kernel_rfl) (by kernel_rfl) (by kernel_rfl) (fun _ _ _ _ h => h) wantedN hS6 (fun W hW => (E.fieldAddr f31 Try.underlying61 rfl rfl wsz3_j)) fun a32 f32 => ?_
      clear f31 a31
      refine R.take 5 f32 rfl rfl (by decide) (by kernel_rfl) (by kernel_rfl) (by kernel_rfl) (fun _ _ _ _ h => h) wantedN hS6 (fun W hW => (E.load f32 Try.underlying3 rfl rfl (fly_cell (Sl.of_own (FL.own.kept hW (by simp))) hA hf 5 rfl (show off + k * 7 + 5 = _ by omega)))) fun a33 f33 => ?_
      clear f32 a32
      refine R.take 7 f33 rfl rfl (by decide) (by kernel_rfl) (by kernel_rfl) (by kernel_rfl) (fun _ _ _ _ h => h) wantedN hS6 (fun W hW => (E.move f33 rfl)) fun a34 f34 => ?_
      clear f33 a33
      refine R.call 1 f34 rfl rfl (by decide) (by kernel_rfl) wantedN (run_call Try.call27 (args1 f34 rfl)) (near_any now _) ?_
      rintro e w2x ⟨rfl, rfl⟩
      refine ⟨_, rfl, hS6, fun a35 f35 => ?_⟩
      clear f34 a34
      refine R.take 6 f35 rfl rfl (by decide) (by kernel_rfl) (by kernel_rfl) (by kernel_rfl) (fun _ _ _ _ h => h) wantedN hS6 (fun W hW => (E.sub f35 rfl rfl (IntWalk.i64_in _ (by omega)))) fun a36 f36 => ?_
      clear f35 a35
      refine R.take 8 f36 rfl rfl (by decide) (by kernel_rfl) (by kernel_rfl) (by kernel_rfl) (fun _ _ _ _ h => h) wantedN hS6 (fun W hW => (E.lss f36 rfl rfl)) fun a37 f37 => ?_
      clear f36 a36
      have szw2r := hS6.size
      replace HK := HK.trans (.of_kept0 hS6)
      replace BP := BP.kept hS6 (by simp)
      replace FL := FL.mod (Mod.of_kept0 (T := []) (M := []) (B := B) hS6) (by decide)
      replace PK := PK.mod (Mod.of_kept0 (T := []) (M := []) (B := B) hS6) (by decide)
      clear hS6
      refine R.done (by kernel_rfl) (hK11 _ _ ?_)
      try clear hK11 K11
      have f38 := f37.sub (sub_cons (i := 0) rfl (sub_cons (i := 1) rfl (sub_cons (i := 2) rfl (sub_cons (i := 7) rfl (sub_cons (i := 8) rfl (sub_cons (i := 9) rfl (sub_cons (i := 14) rfl (sub_cons (i := 15) rfl (sub_cons (i := 16) rfl (sub_cons (i := 17) rfl (sub_cons (i := 18) rfl (sub_cons (i := 19) rfl (sub_cons (i := 20) rfl (sub_cons (i := 21) rfl (sub_cons (i := 22) rfl (sub_cons (i := 23) rfl (sub_cons (i := 24) rfl (sub_cons (i := 25) rfl (sub_cons (i := 26) rfl (sub_cons (i := 27) rfl (sub_cons (i := 28) rfl (sub_cons (i := 29) rfl (sub_cons (i := 30) rfl (sub_cons (i := 31) rfl (sub_cons (i := 32) rfl sub_nil)))))))))))))))))))))))))
      clear f37
      first | refine f38.splitD 32 rfl (fun h1 f39 => ?_) (fun h1 f39 => ?_) | refine f38.splitN 32 rfl (fun h1 f39 => ?_) (fun h1 f39 => ?_) | refine f38.splitNB 32 rfl (fun h1 f39 => ?_) (fun h1 f39 => ?_) | refine f38.split 32 rfl (fun h1 f39 => ?_) (fun h1 f39 => ?_)
      · clear f38
        have hlt := h1
        refine C.condT f39 rfl ?_
        refine wp_exit (hK7 _ _ ?_)
        try clear hK7 K7
        have f40 := f39.sub (sub_cons (i := 0) rfl (sub_cons (i := 1) rfl (sub_cons (i := 2) rfl (sub_cons (i := 7) rfl (sub_cons (i := 8) rfl (sub_cons (i := 9) rfl (sub_cons (i := 14) rfl (sub_cons (i := 15) rfl (sub_cons (i := 16) rfl (sub_cons (i := 17) rfl (sub_cons (i := 18) rfl (sub_cons (i := 19) rfl (sub_cons (i := 20) rfl (sub_cons (i := 21) rfl (sub_cons (i := 22) rfl (sub_cons (i := 23) rfl (sub_cons (i := 24) rfl (sub_cons (i := 25) rfl (sub_cons (i := 26) rfl (sub_cons (i := 27) rfl (sub_cons (i := 28) rfl (sub_cons (i := 29) rfl (sub_cons (i := 30) rfl (sub_cons (i := 31) rfl (sub_cons (i := 32) rfl sub_nil)))))))))))))))))))))))))
        clear f39
        refine C.region ?_
        refine L.val f40 wantedN rfl (by decide) (E.add f40 rfl rfl (IntWalk.i64_in _ (by omega))) fun a41 f41 => ?_
        clear f40 a37
        refine L.val f41 wantedN rfl (by decide) (E.move f41 rfl) fun a42 f42 => ?_
        clear f41 a41
        refine wpList_nil (hKL4 _ _ (gk5 - 1) ?_ ?_)
        · omega
        · exact ⟨k + 1, dn ++ [f], rs', Ao, co, pks, by omega, by simp; omega, hrs', by simpa using FL, by rw [hq]; exact again_skip (by omega), again_ids hids hfs rfl, again_ats hats (hS.ats f hfm), PK, by omega, HK, BP, by simpa using f42.sub (sub_cons rfl (sub_cons rfl (sub_cons rfl (sub_cons rfl (sub_cons rfl (sub_cons rfl sub_nil))))))⟩
      · clear f38
        have hge := h1
        refine C.condF f39 rfl ?_
        refine wp_skip (hK10 _ _ ?_)
        try clear hK10 K10
        have f40 := f39.sub (sub_cons (i := 0) rfl (sub_cons (i := 1) rfl (sub_cons (i := 2) rfl (sub_cons (i := 7) rfl (sub_cons (i := 8) rfl (sub_cons (i := 9) rfl (sub_cons (i := 14) rfl (sub_cons (i := 15) rfl (sub_cons (i := 16) rfl (sub_cons (i := 17) rfl (sub_cons (i := 18) rfl (sub_cons (i := 19) rfl (sub_cons (i := 20) rfl (sub_cons (i := 21) rfl (sub_cons (i := 22) rfl (sub_cons (i := 23) rfl (sub_cons (i := 24) rfl (sub_cons (i := 25) rfl (sub_cons (i := 26) rfl (sub_cons (i := 27) rfl (sub_cons (i := 28) rfl (sub_cons (i := 29) rfl (sub_cons (i := 30) rfl (sub_cons (i := 31) rfl (sub_cons (i := 32) rfl sub_nil)))))))))))))))))))))))))
        clear f39
        refine wp_seq_k fun K12 hK12 => ?_
        refine C.region ?_
        refine L.val f40 wantedN rfl (by decide) (E.move f40 rfl) fun a41 f41 => ?_
        clear f40 a37
        refine L.val f41 wantedN rfl (by decide) (E.move f41 rfl) fun a42 f42 => ?_
        clear f41 a41
        refine L.call f42 wantedN rfl (by decide) (run_call Try.call27 (args1 f42 rfl)) (near_any now _) ?_
        rintro e w2x ⟨rfl, rfl⟩
        refine ⟨_, rfl, fun a43 f43 => ?_⟩
        clear f42 a42
        refine L.val f43 wantedN rfl (by decide) (E.nilCheck f43 rfl) fun a44 f44 => ?_
        clear f43 a43
        refine L.val f44 wantedN rfl (by decide) (E.fieldAddr f44 Try.underlying61 rfl rfl wsz3_j) fun a45 f45 => ?_
        clear f44 a44
        refine L.storeO f45 wantedN wsz3_j (j := k * 7 + 5) hA FL.own rfl (show off + k * 7 + 5 = _ by omega) (by rw [fcell_len]; omega) rfl rfl fun a46 w3 f46 OW2 ks => ?_
        have szw3 := ks.size
        have KM : Mod [61] [] B _ w3 := .of_own1 hA ks FL.own hS.fly.loA (by simp)
        have FL2 := FL.seg hf (f' := { f with at_ := nearI now }) KM hdk OW2 rfl rfl
        replace HK := HK.step KM (by decide) (by simp) (by omega)
        replace BP := BP.mod KM (by decide)
        replace PK := PK.mod KM (by decide)
        clear f45 a45 ks KM OW2
        refine wpList_nil (hK12 _ _ ?_)
        try clear hK12 K12
        have f47 := f46.sub (sub_cons (i := 0) rfl (sub_cons (i := 1) rfl (sub_cons (i := 2) rfl (sub_cons (i := 7) rfl (sub_cons (i := 8) rfl (sub_cons (i := 9) rfl (sub_cons (i := 14) rfl (sub_cons (i := 15) rfl (sub_cons (i := 16) rfl (sub_cons (i := 17) rfl (sub_cons (i := 18) rfl (sub_cons (i := 19) rfl (sub_cons (i := 20) rfl (sub_cons (i := 21) rfl (sub_cons (i := 22) rfl (sub_cons (i := 23) rfl (sub_cons (i := 24) rfl (sub_cons (i := 25) rfl (sub_cons (i := 26) rfl (sub_cons (i := 27) rfl (sub_cons (i := 28) rfl (sub_cons (i := 29) rfl (sub_cons (i := 30) rfl (sub_cons (i := 31) rfl (sub_cons (i := 32) rfl (sub_cons (i := 33) rfl (sub_cons (i := 34) rfl (sub_cons (i := 35) rfl (sub_cons (i := 36) rfl (sub_cons (i := 37) rfl sub_nil))))))))))))))))))))))))))))))
        clear f46
        refine wp_seq_k fun K13 hK13 => ?_
        refine C.region ?_
        refine L.val f47 wantedN rfl (by decide) (E.move f47 rfl) fun a48 f48 => ?_
        clear f47 a46
        refine L.val f48 wantedN rfl (by decide) (E.nilCheck f48 rfl) fun a49 f49 => ?_
        clear f48 a48
        refine L.val f49 wantedN rfl (by decide) (E.fieldAddr f49 Try.underlying61 rfl rfl wsz4_j) fun a50 f50 => ?_
        clear f49 a49
        refine L.val f50 wantedN rfl (by decide) (E.load f50 Try.underlying4 rfl rfl (fly_cell' (Sl.of_own FL2.own) hA hf 6 rfl (show off + k * 7 + 6 = _ by omega))) fun a51 f51 => ?_
        clear f50 a50
        refine wpList_nil (hK13 _ _ ?_)
        try clear hK13 K13
        have f52 := f51.sub (sub_cons (i := 0) rfl (sub_cons (i := 1) rfl (sub_cons (i := 2) rfl (sub_cons (i := 7) rfl (sub_cons (i := 8) rfl (sub_cons (i := 9) rfl (sub_cons (i := 14) rfl (sub_cons (i := 15) rfl (sub_cons (i := 16) rfl (sub_cons (i := 17) rfl (sub_cons (i := 18) rfl (sub_cons (i := 19) rfl (sub_cons (i := 20) rfl (sub_cons (i := 21) rfl (sub_cons (i := 22) rfl (sub_cons (i := 23) rfl (sub_cons (i := 24) rfl (sub_cons (i := 25) rfl (sub_cons (i := 26) rfl (sub_cons (i := 27) rfl (sub_cons (i := 28) rfl (sub_cons (i := 29) rfl (sub_cons (i := 30) rfl (sub_cons (i := 31) rfl (sub_cons (i := 32) rfl (sub_cons (i := 33) rfl (sub_cons (i := 34) rfl (sub_cons (i := 35) rfl (sub_cons (i := 36) rfl (sub_cons (i := 37) rfl (sub_cons (i := 38) rfl (sub_cons (i := 39) rfl (sub_cons (i := 40) rfl (sub_cons (i := 41) rfl sub_nil))))))))))))))))))))))))))))))))))
        clear f51
        first | refine f52.splitD 41 rfl (fun h2 f53 => ?_) (fun h2 f53 => ?_) | refine f52.splitN 41 rfl (fun h2 f53 => ?_) (fun h2 f53 => ?_) | refine f52.splitNB 41 rfl (fun h2 f53 => ?_) (fun h2 f53 => ?_) | refine f52.split 41 rfl (fun h2 f53 => ?_) (fun h2 f53 => ?_)
        · clear f52
          have hrc := h2
          refine C.condT f53 rfl ?_
          refine C.region ?_
          refine L.val f53 wantedN rfl (by decide) (E.move f53 rfl) fun a54 f54 => ?_
          clear f53 a51
          refine L.val f54 wantedN rfl (by decide) (E.move f54 rfl) fun a55 f55 => ?_
          clear f54 a54
          refine L.val f55 wantedN rfl (by decide) (E.nilCheck f55 rfl) fun a56 f56 => ?_
          clear f55 a55
          refine L.val f56 wantedN rfl (by decide) (E.fieldAddr f56 Try.underlying61 rfl rfl wsz3_j) fun a57 f57 => ?_
          clear f56 a56
          refine L.val f57 wantedN rfl (by decide) (E.load f57 Try.underlying3 rfl rfl (fly_cell' (Sl.of_own FL2.own) hA hf 4 rfl (show off + k * 7 + 4 = _ by omega))) fun a58 f58 => ?_
          clear f57 a57
          refine L.call f58 wantedN rfl (by decide) (run_call Try.call23 (args2 f58 rfl rfl)) (reply_any 6 f.id _) ?_
          rintro e w4 ⟨g9, rfl, kc4, B9, lo9⟩
          refine ⟨_, rfl, fun a59 f59 => ?_⟩
          clear f58 a58
          have szw4 := kc4.size
          replace HK := HK.trans (.of_kept0 kc4)
          replace BP := BP.kept kc4 (by simp)
          replace PK := PK.mod (Mod.of_kept0 (T := []) (M := []) (B := B) kc4) (by decide)
          replace FL2 := FL2.mod (Mod.of_kept0 (T := []) (M := []) (B := B) kc4) (by decide)
          clear kc4
          refine L.append f59 wantedN (by decide) Try.underlying27 wzib35_j rfl rfl rfl rfl (PK.fr.own) ((show Sl _ _ 1 24 (pcell ⟨ackP 6 f.id, none, 0⟩) from sl_blk B9 rfl)) (pcell_one _) (by unfold maxLen; omega) (by omega) fun a60 w5 A2 c2 AP5 f60 => ?_
          clear f59 a59
          have kap5 : Mod [35] [] B w4 w5 := .of_app AP5 PK.fr.own (fun a ha => Nat.le_trans hB (PK.fr.from a ha)) (by simp)
          have PK2 := PK.push (x := ⟨ackP 6 f.id, none, 0⟩) AP5 HK.size hB (Pay.nil _ _ _)
          replace HK := HK.app_new AP5 PK.fr
          have szw5 := kap5.size
          replace BP := BP.mod kap5 (by decide)
          replace FL2 := FL2.mod kap5 (by decide)
          clear kap5
          refine L.val f60 wantedN rfl (by decide) (E.assign f60 rfl) fun a61 f61 => ?_
          clear f60 a60
          refine wpList_nil (hK7 _ _ ?_)
          try clear hK7 K7
          have f62 := f61.sub (sub_cons (i := 0) rfl (sub_cons (i := 1) rfl (sub_cons (i := 2) rfl (sub_cons (i := 7) rfl (sub_cons (i := 8) rfl (sub_cons (i := 9) rfl (sub_cons (i := 14) rfl (sub_cons (i := 15) rfl (sub_cons (i := 16) rfl (sub_cons (i := 17) rfl (sub_cons (i := 18) rfl (sub_cons (i := 19) rfl (sub_cons (i := 20) rfl (sub_cons (i := 21) rfl (sub_cons (i := 22) rfl (sub_cons (i := 23) rfl (sub_cons (i := 24) rfl (sub_cons (i := 25) rfl (sub_cons (i := 26) rfl (sub_cons (i := 27) rfl (sub_cons (i := 28) rfl (sub_cons (i := 29) rfl (sub_cons (i := 30) rfl (sub_cons (i := 31) rfl (sub_cons (i := 32) rfl (sub_cons (i := 33) rfl (sub_cons (i := 34) rfl (sub_cons (i := 35) rfl (sub_cons (i := 36) rfl (sub_cons (i := 37) rfl (sub_cons (i := 38) rfl (sub_cons (i := 39) rfl (sub_cons (i := 40) rfl (sub_cons (i := 41) rfl (sub_cons (i := 42) rfl (sub_cons (i := 43) rfl (sub_cons (i := 44) rfl (sub_cons (i := 45) rfl (sub_cons (i := 46) rfl (sub_cons (i := 47) rfl (sub_cons (i := 48) rfl sub_nil)))))))))))))))))))))))))))))))))))))))))
          clear f61
          refine C.region ?_
          refine L.val f62 wantedN rfl (by decide) (E.add f62 rfl rfl (IntWalk.i64_in _ (by omega))) fun a63 f63 => ?_
          clear f62 a61
          refine L.val f63 wantedN rfl (by decide) (E.move f63 rfl) fun a64 f64 => ?_
          clear f63 a63
          refine wpList_nil (hKL4 _ _ (gk5 - 1) ?_ ?_)
          · omega
          · exact ⟨k + 1, dn ++ [{ f with at_ := nearI now }], rs', A2, c2, pks ++ [⟨ackP 6 f.id, none, 0⟩], by omega, by simp; omega, hrs', by simpa using FL2, by rw [hq]; exact again_do (by omega) (by rw [show f.rc = true from hrc]; rfl), again_ids hids hfs rfl, again_ats hats (near_bd now), by simpa using PK2, by simp; omega, HK, BP, by simpa using f64.sub (sub_cons rfl (sub_cons rfl (sub_cons rfl (sub_cons rfl (sub_cons rfl (sub_cons rfl sub_nil))))))⟩
        · clear f52
          have hrc := h2
          refine C.condF f53 rfl ?_
          obtain ⟨MM, hMM⟩ : ∃ MM, MM = (Value.slice Ao pks.length co).ownBlock.toList := ⟨_, rfl⟩
          have hMF : ∀ b, (Value.slice s.FA (dn ++ { f with at_ := nearI now } :: rs').length s.fc).ownBlock = some b → b ∉ MM := by rw [hMM]; exact own_own FL2.own PK.fr.own (by decide)
          have hpM : p ∉ MM := by rw [hMM]; exact own_ne PK.fr.own BP (by decide)
          have HPF : Pay B w3 f.x.A f.x.m.pay := FL2.pay { f with at_ := nearI now } (List.mem_append_right dn List.mem_cons_self)
          have PK1 := PK
          refine R.begin (S := fun W => Kept MM w3 W) (by kernel_rfl) (by exact (Kept.refl _ _).drewN 1) ?_
          have hS10 : Kept MM w3 (w3.drewN 1) := (Kept.refl _ _).drewN 1
          have hd10 : Kept [] w3 (w3.drewN 1) := (Kept.refl _ _).drewN 1
          obtain ⟨w4, hww4⟩ : ∃ W, W = w3.drewN 1 := ⟨_, rfl⟩
          rw [← hww4] at hS10 hd10 ⊢
          clear hww4
          have szw4 := hS10.size
          replace PK := PK.mod (T := []) (M := []) (Mod.of_kept0 (B := B) hd10) (by simp)
          replace HPF := HPF.kept0 hd10
          replace HK := HK.trans (.of_kept0 hd10)
          refine R.take 0 f53 rfl rfl (by decide) (by kernel_rfl) (by kernel_rfl) (by kernel_rfl) (fun _ _ _ _ h => h) wantedN hS10 (fun W hW => (E.move f53 rfl)) fun a54 f54 => ?_
          clear f53 a51
          refine R.take 1 f54 rfl rfl (by decide) (by kernel_rfl) (by kernel_rfl) (by kernel_rfl) (fun _ _ _ _ h => h) wantedN hS10 (fun W hW => (E.move f54 rfl)) fun a55 f55 => ?_
          clear f54 a54
          refine R.take 2 f55 rfl rfl (by decide) (by kernel_rfl) (by kernel_rfl) (by kernel_rfl) (fun _ _ _ _ h => h) wantedN hS10 (fun W hW => (E.nilCheck f55 rfl)) fun a56 f56 => ?_
          clear f55 a55
          refine R.take 3 f56 rfl rfl (by decide) (by kernel_rfl) (by kernel_rfl) (by kernel_rfl) (fun _ _ _ _ h => h) wantedN hS10 (fun W hW => (E.fieldAddr f56 Try.underlying61 rfl rfl wsz43_j)) fun a57 f57 => ?_
          clear f56 a56
          refine R.take 4 f57 rfl rfl (by decide) (by kernel_rfl) (by kernel_rfl) (by kernel_rfl) (fun _ _ _ _ h => h) wantedN hS10 (fun W hW => (E.loadR f57 Try.underlying43 rfl wsz43_j rfl (fly_msg (Sl.of_own (FL2.own.kept hW hMF)) hA hf (show off + k * 7 + 0 = _ by omega)) rfl)) fun a58 f58 => ?_
          clear f57 a57
          refine R.take 5 f58 rfl rfl (by decide) (by kernel_rfl) (by kernel_rfl) (by kernel_rfl) (fun _ _ _ _ h => h) wantedN hS10 (fun W hW => (E.move f58 rfl)) fun a59 f59 => ?_
          clear f58 a58
          refine R.take 6 f59 rfl rfl (by decide) (by kernel_rfl) (by kernel_rfl) (by kernel_rfl) (fun _ _ _ _ h => h) wantedN hS10 (fun W hW => (E.nilCheck f59 rfl)) fun a60 f60 => ?_
          clear f59 a59
          refine R.take 7 f60 rfl rfl (by decide) (by kernel_rfl) (by kernel_rfl) (by kernel_rfl) (fun _ _ _ _ h => h) wantedN hS10 (fun W hW => (E.fieldAddr f60 Try.underlying61 rfl rfl wsz3_j)) fun a61 f61 => ?_
          clear f60 a60
          refine R.take 8 f61 rfl rfl (by decide) (by kernel_rfl) (by kernel_rfl) (by kernel_rfl) (fun _ _ _ _ h => h) wantedN hS10 (fun W hW => (E.load f61 Try.underlying3 rfl rfl (fly_cell' (Sl.of_own (FL2.own.kept hW hMF)) hA hf 4 rfl (show off + k * 7 + 4 = _ by omega)))) fun a62 f62 => ?_
          clear f61 a61
          refine R.call 9 f62 rfl rfl (by decide) (by kernel_rfl) wantedN (run_call Try.call28 (args3 f62 rfl rfl rfl)) (publish_any f.x.m.tp f.x.A f.x.m.pay.length f.x.c _ f.x.m.qos f.x.m.ret f.id true _ HPF.sl u8_one HPF.2) ?_
          rintro e w5 ⟨kc5, Ap, cp, rfl, FP⟩
          have HR : Pay B w5 Ap f.x.m.pay := Pay.of_fresh FP HPF.2
          replace hS10 := hS10.trans kc5 (by simp)
          refine ⟨_, rfl, hS10, fun a63 f63 => ?_⟩
          clear f62 a62
          have szw5 := kc5.size
          replace PK := PK.mod (T := []) (M := []) (Mod.of_kept0 (B := B) kc5) (by simp)
          replace HPF := HPF.kept0 kc5
          replace HK := HK.trans (.of_kept0 kc5)
          clear kc5
          refine R.one 10 (by kernel_rfl) ?_
          refine O.buildSlice f63 rfl wantedN (by decide) (parts1 f63 rfl) Try.underlying27 wzj35 rfl rfl (wpk1 ⟨pubP f.x.m f.id true, Ap, cp⟩) (fun _ hk => hS10.trans hk (by simp)) fun a64 w6 g5 N5 hSn f64 => ?_
          clear f63 a63
          have Bg5 := N5.blk
          have kg5 := N5.kept
          have log5 := N5.lo
          have ltg5 := Bg5.lt
          have szw6 := kg5.size
          have szSw6 := hS10.size
          replace PK := PK.mod (T := []) (M := []) (Mod.of_kept0 (B := B) kg5) (by simp)
          replace HPF := HPF.kept0 kg5
          replace HK := HK.trans (.of_kept0 kg5)
          replace HR := HR.kept0 kg5
          clear N5 kg5
          replace hS10 := hSn
          clear hSn
          refine R.one 11 (by kernel_rfl) ?_
          refine O.append f64 rfl wantedN (by decide) Try.underlying27 wzib35_j rfl rfl rfl rfl (PK.fr.own) ((show Sl _ _ 1 24 (pcell ⟨pubP f.x.m f.id true, Ap, cp⟩) from sl_blk Bg5 rfl)) (pcell_one _) (by unfold maxLen; omega) (by omega) fun a65 w7 A2 c2 AP7 => ?_
          have kap7 : Kept MM w6 w7 := by rw [hMM]; exact AP7.kept
          have PK2 := PK.push (x := ⟨pubP f.x.m f.id true, Ap, cp⟩) AP7 HK.size hB HR
          have HK2 := HK.app_new AP7 PK.fr
          have hSn := hS10.trans kap7 (by exact fun x hx _ => hx)
          refine ⟨hSn, fun f65 => ?_⟩
          clear f64
          have szw7 := kap7.size
          replace HPF := HPF
          clear kap7
          replace hS10 := hSn
          clear hSn
          refine R.take 12 f65 rfl rfl (by decide) (by kernel_rfl) (by kernel_rfl) (by kernel_rfl) (fun _ _ _ _ h => h) wantedN hS10 (fun W hW => (E.assign f65 rfl)) fun a66 f66 => ?_
          clear f65 a65
          have szw7r := hS10.size
          have KM := Mod.of_own (T := [35]) (M := []) (B := B) (hMM ▸ hS10) PK1.fr.own (fun a ha => Nat.le_trans hB (PK1.fr.from a ha)) (by simp)
          replace BP := BP.kept hS10 (by assumption)
          replace FL2 := FL2.mod KM (by decide)
          clear hS10
          refine R.done (by kernel_rfl) (hK7 _ _ ?_)
          try clear hK7 K7
          have f67 := f66.sub (sub_cons (i := 0) rfl (sub_cons (i := 1) rfl (sub_cons (i := 2) rfl (sub_cons (i := 7) rfl (sub_cons (i := 8) rfl (sub_cons (i := 9) rfl (sub_cons (i := 14) rfl (sub_cons (i := 15) rfl (sub_cons (i := 16) rfl (sub_cons (i := 17) rfl (sub_cons (i := 18) rfl (sub_cons (i := 19) rfl (sub_cons (i := 20) rfl (sub_cons (i := 21) rfl (sub_cons (i := 22) rfl (sub_cons (i := 23) rfl (sub_cons (i := 24) rfl (sub_cons (i := 25) rfl (sub_cons (i := 26) rfl (sub_cons (i := 27) rfl (sub_cons (i := 28) rfl (sub_cons (i := 29) rfl (sub_cons (i := 30) rfl (sub_cons (i := 31) rfl (sub_cons (i := 32) rfl (sub_cons (i := 33) rfl (sub_cons (i := 34) rfl (sub_cons (i := 35) rfl (sub_cons (i := 36) rfl (sub_cons (i := 37) rfl (sub_cons (i := 38) rfl (sub_cons (i := 39) rfl (sub_cons (i := 40) rfl (sub_cons (i := 41) rfl (sub_cons (i := 49) rfl (sub_cons (i := 50) rfl (sub_cons (i := 51) rfl (sub_cons (i := 52) rfl (sub_cons (i := 53) rfl (sub_cons (i := 54) rfl (sub_cons (i := 55) rfl (sub_cons (i := 56) rfl (sub_cons (i := 57) rfl (sub_cons (i := 58) rfl (sub_cons (i := 59) rfl (sub_cons (i := 60) rfl sub_nil))))))))))))))))))))))))))))))))))))))))))))))
          clear f66
          refine C.region ?_
          refine L.val f67 wantedN rfl (by decide) (E.add f67 rfl rfl (IntWalk.i64_in _ (by omega))) fun a68 f68 => ?_
          clear f67 a66
          refine L.val f68 wantedN rfl (by decide) (E.move f68 rfl) fun a69 f69 => ?_
          clear f68 a68
          refine wpList_nil (hKL4 _ _ (gk5 - 1) ?_ ?_)
          · omega
          · exact ⟨k + 1, dn ++ [{ f with at_ := nearI now }], rs', A2, c2, pks ++ [⟨pubP f.x.m f.id true, Ap, cp⟩], by omega, by simp; omega, hrs', by simpa using FL2, by rw [hq]; exact again_do (by omega) (by rw [show f.rc = false from hrc]; rfl), again_ids hids hfs rfl, again_ats hats (near_bd now), by simpa using PK2, by simp; omega, HK2, BP, by simpa using f69.sub (sub_cons rfl (sub_cons rfl (sub_cons rfl (sub_cons rfl (sub_cons rfl (sub_cons rfl sub_nil))))))⟩
    · clear f15
      refine C.condF f16 rfl ?_
      refine wp_exit (hK2 _ _ ?_)
      try clear hK2 K2
      have f17 := f16.sub (sub_cons (i := 7) rfl sub_nil)
      clear f16
      refine wp_seq_k fun K14 hK14 => ?_
      refine C.region ?_
      refine L.val f17 wantedN rfl (by decide) (E.move f17 rfl) fun a18 f18 => ?_
      clear f17 a14
      refine L.val f18 wantedN rfl (by decide) (E.assign f18 rfl) fun a19 f19 => ?_
      clear f18 a18
      refine wpList_nil (hK14 _ _ ?_)
      try clear hK14 K14
      have f20 := f19.sub (sub_cons (i := 6) rfl sub_nil)
      clear f19
      refine wp_ret ?_
      try simp only [Exit.inBlock, Exit.then]
      refine C.ret (P := Try.prog) (fn := Try.f33) f20 rfl rfl ?_
      exact again_fin hS hrs FL hq hids hats PK HK BP (by omega)

end Go.Proofs.Ytdfllmiokgoekaa
