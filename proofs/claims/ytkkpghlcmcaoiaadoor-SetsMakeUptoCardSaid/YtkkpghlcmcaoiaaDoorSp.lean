/- A spec as a ghost over the world: its rules, names and productions, and its grammar in plain words. -/
import Derived.Test.YtkkpghlcmcaoiaaDoorProg
import Derived.Test.YtkkpghlcmcaoiaaDoorVm
import Derived.Test.YtkkpghlcmcaoiaaDoorGm
namespace Go.Proofs.YtkkpghlcmcaoiaaDoor
open Go.Vc Go.Gm

/-- a lexical rule: its name, trivia, its pattern's cells -/
structure Lx where
  nm : ByteArray
  tr : Bool
  kd : Int
  fr : Int
  to : Int
  mi : Int
  ma : Int
  ls : Value
def Lx.cells (x : Lx) : List Value := [.string x.nm, .bool x.tr, I6 x.kd, I6 x.fr, I6 x.to, I6 x.mi, I6 x.ma, x.ls]
abbrev Sy := Int × Int
structure Pd where
  l : Int
  ra : Option Addr
  rc : Nat
  r : List Sy
def Pd.rv (p : Pd) : Value := .slice p.ra p.r.length p.rc
def Pd.cells (p : Pd) : List Value := [I6 p.l, p.rv]
structure Sp where
  la : Option Addr
  lc : Nat
  lx : List Lx
  na : Option Addr
  nc : Nat
  ns : List ByteArray
  st : Int
  pa : Option Addr
  pc : Nat
  ps : List Pd
def Sp.lv (S : Sp) : Value := .slice S.la S.lx.length S.lc
def Sp.nv (S : Sp) : Value := .slice S.na S.ns.length S.nc
def Sp.pv (S : Sp) : Value := .slice S.pa S.ps.length S.pc
def Sp.cells (S : Sp) : List Value := [S.lv, S.nv, I6 S.st, S.pv]
def lcells (l : List Lx) : List Value := l.flatMap Lx.cells
def pcells (l : List Pd) : List Value := l.flatMap Pd.cells
def ycells (l : List Sy) : List Value := l.flatMap fun x => [I6 x.1, I6 x.2]
def ncells (l : List ByteArray) : List Value := l.map .string
theorem flat_len {α : Type} {f : α → List Value} {k : Nat} (hf : ∀ x, (f x).length = k) : ∀ l : List α, (l.flatMap f).length = l.length * k
  | [] => by simp
  | x :: l => by rw [List.flatMap_cons, List.length_append, hf, flat_len hf l, List.length_cons, Nat.add_mul, Nat.one_mul, Nat.add_comm]
theorem flat_at {α : Type} {f : α → List Value} {k : Nat} (hf : ∀ x, (f x).length = k) : ∀ (l : List α) (j i : Nat) (x : α), l[j]? = some x → i < k → (l.flatMap f)[j * k + i]? = (f x)[i]?
  | [], j, i, x, hj, _ => by simp at hj
  | y :: l, 0, i, x, hj, hi => by
    simp only [List.getElem?_cons_zero, Option.some.injEq] at hj
    subst hj
    rw [List.flatMap_cons, Nat.zero_mul, Nat.zero_add, List.getElem?_append_left (by rw [hf]; exact hi)]
  | y :: l, j + 1, i, x, hj, hi => by
    simp only [List.getElem?_cons_succ] at hj
    have ih := flat_at hf l j i x hj hi
    rw [List.flatMap_cons, List.getElem?_append_right (by rw [hf, Nat.add_mul, Nat.one_mul]; omega), hf, ← ih]
    congr 1
    rw [Nat.add_mul, Nat.one_mul]; omega
theorem lcells_at (l : List Lx) (j i : Nat) (x : Lx) (h : l[j]? = some x) (hi : i < 8) : (lcells l)[j * 8 + i]? = x.cells[i]? := flat_at (k := 8) (fun _ => rfl) l j i x h hi
theorem pcells_at (l : List Pd) (j i : Nat) (x : Pd) (h : l[j]? = some x) (hi : i < 2) : (pcells l)[j * 2 + i]? = x.cells[i]? := flat_at (k := 2) (fun _ => rfl) l j i x h hi
theorem ycells_at (l : List Sy) (j i : Nat) (x : Sy) (h : l[j]? = some x) (hi : i < 2) : (ycells l)[j * 2 + i]? = [I6 x.1, I6 x.2][i]? := flat_at (k := 2) (fun _ => rfl) l j i x h hi
/-- the spec lies so in the world -/
structure SpOk (w : World) (S : Sp) : Prop where
  lex : RdV w 8 S.lv S.lx.length (lcells S.lx)
  names : RdV w 1 S.nv S.ns.length (ncells S.ns)
  prods : RdV w 2 S.pv S.ps.length (pcells S.ps)
  right : ∀ p ∈ S.ps, RdV w 2 p.rv p.r.length (ycells p.r)
  lmax : S.lx.length ≤ 1048576
  nmax : S.ns.length ≤ 1048576
  pmax : S.ps.length ≤ 1048576
  rmax : ∀ p ∈ S.ps, p.r.length ≤ 1048576
theorem SpOk.ext0 {w w' : World} {S : Sp} (h : SpOk w S) (hE : Ext [] w w') : SpOk w' S :=
  ⟨h.lex.ext0 hE, h.names.ext0 hE, h.prods.ext0 hE, fun p hp => (h.right p hp).ext0 hE, h.lmax, h.nmax, h.pmax, h.rmax⟩

/-! ### in plain words -/
/-- a symbol names something -/
def syOk (S : Sp) (x : Sy) : Prop := (x.1 = 1 ∧ 0 ≤ x.2 ∧ x.2 < S.lx.length ∧ (∀ r, S.lx[x.2.toNat]? = some r → r.tr = false)) ∨ (x.1 = 2 ∧ x.2 = 0) ∨ (x.1 = 3 ∧ 0 ≤ x.2 ∧ x.2 < S.ns.length)
/-- all symbols name something -/
structure Ix (S : Sp) : Prop where
  st : 0 ≤ S.st ∧ S.st < S.ns.length
  left : ∀ p ∈ S.ps, 0 ≤ p.l ∧ p.l < S.ns.length
  right : ∀ p ∈ S.ps, ∀ x ∈ p.r, syOk S x
def sm (x : Sy) : Sm := if x.1 = 3 then .m x.2.toNat else if x.1 = 1 then .t x.2.toNat else .e
def row (r : List Sy) : List Sm := r.map sm
def Sp.g (S : Sp) : Gr := S.ps.map fun p => (p.l.toNat, row p.r)
def Sp.nl (S : Sp) : Nat := S.lx.length
theorem g_mem {S : Sp} {p : Pd} (h : p ∈ S.ps) : (p.l.toNat, row p.r) ∈ S.g := List.mem_map.2 ⟨p, h, rfl⟩
theorem g_of {S : Sp} {A : Nat} {r : List Sm} (h : (A, r) ∈ S.g) : ∃ p ∈ S.ps, p.l.toNat = A ∧ row p.r = r := by
  obtain ⟨p, hp, he⟩ := List.mem_map.1 h
  cases he
  exact ⟨p, hp, rfl, rfl⟩
theorem sm_name {x : Sy} : x.1 = 3 → sm x = .m x.2.toNat := fun h => by simp [sm, h]
theorem sm_m {x : Sy} {B : Nat} (h : sm x = .m B) : x.1 = 3 ∧ x.2.toNat = B := by
  unfold sm at h
  split at h
  · rename_i h3; cases h; exact ⟨h3, rfl⟩
  · split at h <;> cases h
end Go.Proofs.YtkkpghlcmcaoiaaDoor
