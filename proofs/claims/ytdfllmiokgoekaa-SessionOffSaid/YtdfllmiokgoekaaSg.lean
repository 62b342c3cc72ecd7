/- A session in memory: its queue, its flights, its ids, what it got; and the plain words on it. -/
import Derived.Test.YtdfllmiokgoekaaSf
import Derived.Test.YtdfllmiokgoekaaMo
set_option linter.all false
namespace Go.Proofs.Ytdfllmiokgoekaa
open Go.RowKit Go.Hub

/-! ### plain words -/
structure Ms where
  tp : ByteArray
  pay : List UInt8
  qos : Int
  ret : Bool
structure Fa where
  m : Ms
  id : Int
  at_ : Int
  rc : Bool
structure SA where
  used : List Int
  taken : Int
  fly : List Fa
  wait : List Ms
  lost : Int
  got : List Int
structure Pa where
  kind : Int
  dup : Bool
  ret : Bool
  qos : Int
  id : Int
  tp : ByteArray
  pay : List UInt8
def newS : SA := ⟨[], 0, [], [], 0, []⟩
def pubP (m : Ms) (id : Int) (dup : Bool) : Pa := ⟨3, dup, m.ret, m.qos, id, m.tp, m.pay⟩
def ackP (k id : Int) : Pa := ⟨k, false, false, 0, id, ⟨#[]⟩, []⟩
def riseS (s : SA) (m : Ms) (now : Int) : SA := { s with used := insS (Go.Ids.nxt s.used s.taken) s.used, taken := Go.Ids.nxt s.used s.taken, fly := s.fly ++ [⟨m, Go.Ids.nxt s.used s.taken, nearI now, false⟩] }
def riseP (s : SA) (m : Ms) : Pa := pubP m (Go.Ids.nxt s.used s.taken) false
def drainN : Nat → SA → Int → SA × List Pa
  | 0, s, _ => (s, [])
  | k + 1, s, now => if s.fly.length < 4 then match s.wait with
      | [] => (s, [])
      | m :: r => let t := { s with wait := r }; let q := drainN k (riseS t m now) now; (q.1, riseP t m :: q.2)
    else (s, [])
def drainS (s : SA) (now : Int) : SA × List Pa := drainN 5 s now
def pushS (s : SA) (m : Ms) : SA := if s.wait.length < 8 then { s with wait := s.wait ++ [m] } else { s with lost := s.lost + 1 }
def sendS (s : SA) (m : Ms) (on : Bool) (now : Int) : SA × List Pa :=
  if m.qos = 0 ∧ on = true then (s, [pubP m 0 false])
  else if m.qos < 1 ∨ 2 < m.qos then (s, [])
  else if on = true ∧ s.fly.length < 4 ∧ s.wait.length = 0 then (riseS s m now, [riseP s m])
  else (pushS s m, [])
def idxI : List Int → Int → Int → Int
  | [], _, _ => -1
  | x :: r, id, k => if x = id then k else idxI r id (k + 1)
def doneS (s : SA) (i : Nat) (id now : Int) : SA × List Pa := drainS { s with used := s.used.erase id, fly := s.fly.eraseIdx i } now
def ackS (s : SA) (kind id now : Int) : SA × List Pa :=
  let i := idxI (s.fly.map (·.id)) id 0
  match s.fly[i.toNat]? with
  | none => (s, [])
  | some f =>
    if i < 0 then (s, [])
    else if (kind = 4 ∧ f.m.qos = 1) ∨ (kind = 7 ∧ f.rc = true) then doneS s i.toNat f.id now
    else if kind = 5 ∧ f.m.qos = 2 then ({ s with fly := s.fly.set i.toNat { f with rc := true, at_ := nearI now } }, [ackP 6 f.id])
    else (s, [])
def againF (now ago : Int) : List Fa → List Fa × List Pa
  | [] => ([], [])
  | f :: r => let q := againF now ago r
    if nearI now - f.at_ < ago then (f :: q.1, q.2) else ({ f with at_ := nearI now } :: q.1, (if f.rc = true then ackP 6 f.id else pubP f.m f.id true) :: q.2)
def againS (s : SA) (now ago : Int) : SA × List Pa := ({ s with fly := (againF now ago s.fly).1 }, (againF now ago s.fly).2)
def resumeS (s : SA) (now : Int) : SA × List Pa := let a := againS s now (-4398046511104); let d := drainS a.1 now; (d.1, a.2 ++ d.2)
def gotS (s : SA) (kind qos id : Int) : SA × Bool × List Pa :=
  if kind = 6 then ({ s with got := s.got.erase id }, false, [ackP 7 id])
  else if kind ≠ 3 ∨ qos < 0 ∨ 2 < qos then (s, false, [])
  else if qos = 0 then (s, true, [])
  else if qos = 1 then (s, true, [ackP 4 id])
  else ({ s with got := insS id s.got }, !decide (id ∈ s.got), [ackP 5 id])

/-! ### in memory -/
structure Mc where
  m : Ms
  A : Option Addr
  c : Nat
abbrev mcell (x : Mc) : List Value := [.string x.m.tp, .slice x.A x.m.pay.length x.c, .int .i64 x.m.qos, .bool x.m.ret]
structure Fc where
  x : Mc
  id : Int
  at_ : Int
  rc : Bool
abbrev fcell (f : Fc) : List Value := [.string f.x.m.tp, .slice f.x.A f.x.m.pay.length f.x.c, .int .i64 f.x.m.qos, .bool f.x.m.ret, .int .i64 f.id, .int .i64 f.at_, .bool f.rc]
def Fc.abs (f : Fc) : Fa := ⟨f.x.m, f.id, f.at_, f.rc⟩
structure Pc where
  p : Pa
  A : Option Addr
  c : Nat
def pcell (x : Pc) : List Value := [.int .i64 x.p.kind, .bool x.p.dup, .bool x.p.ret, .int .i64 x.p.qos, .int .i64 x.p.id, .string x.p.tp, .slice x.A x.p.pay.length x.c, .int .i64 0, .string ⟨#[]⟩, .bool false, .int .i64 0, .bool false, .string ⟨#[]⟩, .slice none 0 0, .int .i64 0, .bool false, .bool false, .bool false, .string ⟨#[]⟩, .slice none 0 0, .bool false, .int .i64 0, .slice none 0 0, .slice none 0 0]
/-- a payload that nobody writes -/
def Pay (B : Nat) (w : World) (A : Option Addr) (l : List UInt8) : Prop := Bs [5] B w A l.length l ∧ l.length ≤ 1000000000
structure QuAt (B : Nat) (w : World) (q : Nat) (A : Option Addr) (c : Nat) (l : List Mc) (lost : Int) : Prop where
  top : Blk w q 72 #[.slice A l.length c, .int .i64 8, .int .i64 lost]
  own : Own w 43 4 (.slice A l.length c) l.length (l.flatMap mcell)
  pay : ∀ m ∈ l, Pay B w m.A m.m.pay
  lo : B ≤ q
  loA : ∀ a, A = some a → B ≤ a.block
  len : l.length ≤ 8
structure FlyAt (B : Nat) (w : World) (A : Option Addr) (c : Nat) (l : List Fc) : Prop where
  own : Own w 61 7 (.slice A l.length c) l.length (l.flatMap fcell)
  pay : ∀ f ∈ l, Pay B w f.x.A f.x.m.pay
  loA : ∀ a, A = some a → B ≤ a.block
  len : l.length ≤ 4
structure PkAt (B : Nat) (w0 w : World) (A : Option Addr) (c : Nat) (l : List Pc) : Prop where
  fr : Fresh w0 w 35 24 A l.length c (l.flatMap pcell)
  pay : ∀ x ∈ l, Pay B w x.A x.p.pay
structure Ses where
  cl : ByteArray
  sv : Value
  ip : Nat
  im : Nat
  q : Nat
  gm : Nat
  used : List Int
  taken : Int
  fly : List Fc
  FA : Option Addr
  fc : Nat
  wait : List Mc
  QA : Option Addr
  qc : Nat
  lost : Int
  got : List Int
def Ses.abs (s : Ses) : SA := ⟨s.used, s.taken, s.fly.map Fc.abs, s.wait.map (·.m), s.lost, s.got⟩
/-- what stays as it is -/
structure Ses.Like (s s' : Ses) : Prop where
  im : s'.im = s.im
  gm : s'.gm = s.gm
  cl : s'.cl = s.cl
abbrev Ses.cells (s : Ses) : Array Value := #[.string s.cl, s.sv, .pointer (some ⟨s.ip, 0, none⟩), .slice s.FA s.fly.length s.fc, .pointer (some ⟨s.q, 0, none⟩), .map (some s.gm)]
structure SesAt (B : Nat) (w : World) (p : Nat) (s : Ses) : Prop where
  top : Blk w p 57 s.cells
  one : s.sv.oneCell' = true
  ids : IdsAt w s.ip s.im s.used 65535 s.taken
  qu : QuAt B w s.q s.QA s.qc s.wait s.lost
  fly : FlyAt B w s.FA s.fc s.fly
  got : IsSet Try.prog 3 4 w s.gm s.got
  ne : s.im ≠ s.gm
  lop : B ≤ p
  loi : B ≤ s.ip
  lom : B ≤ s.im
  log : B ≤ s.gm
  tk : 0 ≤ s.taken ∧ s.taken ≤ 65535
  perm : s.used.Perm (s.fly.map (·.id))
  ats : ∀ f ∈ s.fly, -1099511627776 ≤ f.at_ ∧ f.at_ ≤ 1099511627776
  idb : ∀ f ∈ s.fly, 1 ≤ f.id ∧ f.id ≤ 65535
section
variable {T : List TypeId} {M : List Nat} {B : Nat} {w w' w0 : World} {A : Option Addr} {c p q : Nat}
theorem Pay.mod {l : List UInt8} (h : Pay B w A l) (hm : Mod T M B w w') (hT : (5 : TypeId) ∉ T) : Pay B w' A l := ⟨h.1.mod hm (by simpa using hT), h.2⟩
theorem Pay.nil (B : Nat) (w : World) (A : Option Addr) : Pay B w A [] := ⟨Bs.nil _ _ _ _, by simp⟩
theorem Pay.of_fresh {n : Nat} {l : List UInt8} (h : Fresh w0 w 5 1 A n c (l.map u8)) (hl : l.length ≤ 1000000000) : Pay B w A l := by
  have hn : n = l.length := by have := h.own.1; simpa using this.symm
  subst hn
  exact ⟨Bs.of_own h.own (by simp), hl⟩
theorem Pay.sl {l : List UInt8} (h : Pay B w A l) : Sl w A l.length 1 (l.map u8) := h.1.sl
theorem Pay.kept0 {l : List UInt8} (h : Pay B w A l) (hk : Kept [] w w') : Pay B w' A l := h.mod (T := []) (M := []) (.of_kept0 hk) (by simp)
theorem QuAt.mod {l : List Mc} {lost : Int} (h : QuAt B w q A c l lost) (hm : Mod T M B w w') (hT : (72 : TypeId) ∉ T ∧ (43 : TypeId) ∉ T ∧ (5 : TypeId) ∉ T) : QuAt B w' q A c l lost :=
  ⟨h.top.mod hm hT.1, h.own.mod hm hT.2.1, fun m hx => (h.pay m hx).mod hm hT.2.2, h.lo, h.loA, h.len⟩
theorem FlyAt.mod {l : List Fc} (h : FlyAt B w A c l) (hm : Mod T M B w w') (hT : (61 : TypeId) ∉ T ∧ (5 : TypeId) ∉ T) : FlyAt B w' A c l :=
  ⟨h.own.mod hm hT.1, fun m hx => (h.pay m hx).mod hm hT.2, h.loA, h.len⟩
theorem PkAt.mod {l : List Pc} (h : PkAt B w0 w A c l) (hm : Mod T M B w w') (hT : (35 : TypeId) ∉ T ∧ (5 : TypeId) ∉ T) : PkAt B w0 w' A c l := ⟨h.fr.mod hm hT.1, fun x hx => (h.pay x hx).mod hm hT.2⟩
theorem PkAt.nil (B : Nat) (w0 w : World) : PkAt B w0 w none 0 [] := ⟨Fresh.nil _ _ _ _, by simp⟩
theorem PkAt.lower {l : List Pc} {w1 : World} (h : PkAt B w0 w A c l) (hs : w1.heap.size ≤ w0.heap.size) : PkAt B w1 w A c l := ⟨h.fr.lower hs, h.pay⟩
theorem IdsAt.mod {ip im : Nat} {S : List Int} {most taken : Int} (h : IdsAt w ip im S most taken) (hm : Mod T M B w w') (hT : (69 : TypeId) ∉ T) (hM : im ∉ M) : IdsAt w' ip im S most taken := ⟨h.top.mod hm hT, h.set.mod hm hM, h.ne⟩
theorem SesAt.mod {s : Ses} (h : SesAt B w p s) (hm : Mod T [] B w w') (hT : ∀ t ∈ ([57, 69, 72, 43, 61, 5] : List TypeId), t ∉ T) : SesAt B w' p s :=
  ⟨h.top.mod hm (hT _ (by simp)), h.one, h.ids.mod hm (hT _ (by simp)) (by simp), h.qu.mod hm ⟨hT _ (by simp), hT _ (by simp), hT _ (by simp)⟩, h.fly.mod hm ⟨hT _ (by simp), hT _ (by simp)⟩, h.got.mod hm (by simp), h.ne, h.lop, h.loi, h.lom, h.log, h.tk, h.perm, h.ats, h.idb⟩
theorem SesAt.kept0 {s : Ses} (h : SesAt B w p s) (hk : Kept [] w w') : SesAt B w' p s := h.mod (T := []) (.of_kept0 hk) (by simp)
end
theorem mcell_len (l : List Mc) : (l.flatMap mcell).length = l.length * 4 := flat_len mcell 4 (fun _ => rfl) l
theorem fcell_len (l : List Fc) : (l.flatMap fcell).length = l.length * 7 := flat_len fcell 7 (fun _ => rfl) l
theorem pcell_len (l : List Pc) : (l.flatMap pcell).length = l.length * 24 := flat_len pcell 24 (fun _ => rfl) l
end Go.Proofs.Ytdfllmiokgoekaa
