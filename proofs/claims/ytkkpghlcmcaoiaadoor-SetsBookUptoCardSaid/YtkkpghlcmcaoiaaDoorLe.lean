import Derived.Test.YtkkpghlcmcaoiaaDoorEx
import Derived.Test.YtkkpghlcmcaoiaaDoorMk
namespace Go.Proofs.YtkkpghlcmcaoiaaDoor
open Go.Vc Go.Gm
structure PatOk (w : World) (S : Sp) (xs : List Ex) : Prop where
 len : xs.length = S.lx.length
 is : ∀ (i : Nat) (l : Lx) (x : Ex), S.lx[i]? = some l → xs[i]? = some x → l.cells = [.string l.nm, .bool l.tr, I6 x.kd, I6 x.fr, I6 x.to, I6 x.mi, I6 x.ma, x.ls]
 ok : ∀ x ∈ xs, Ex.Ok w x
theorem PatOk.ext0 {w w' : World} {S : Sp} {xs : List Ex} (h : PatOk w S xs) (hE : Ext [] w w') : PatOk w' S xs := ⟨h.len, h.is, fun x hx => (h.ok x hx).ext0 hE⟩
theorem lcells_is {l : List Lx} {j i : Nat} {x : Lx} {cs : List Value} (h : l[j]? = some x) (hc : x.cells = cs) (hi : i < 8) : (lcells l)[j * 8 + i]? = cs[i]? := by rw [← hc]; exact lcells_at l j i x h hi
def mk4 : ByteArray := ⟨#[109, 97, 114, 107]⟩
def markL : List Value := [.string mk4, .bool false, I6 0, I6 0, I6 0, I6 0, I6 0, .slice none 0 0]
def markP : List Value := [I6 (-77), .slice none 0 0]
def markY : List Value := [I6 77, I6 0]
structure LxsOk (w : World) (N : Nat) (S : Sp) (xs : List Ex) (k : Nat) (ls : List Lx) : Prop where
 len : ls.length = k
 is : ∀ (i : Nat) (l l' : Lx) (x : Ex), S.lx[i]? = some l → ls[i]? = some l' → xs[i]? = some x → l'.cells = [.string l.nm, .bool l.tr, I6 x.kd, I6 x.fr, I6 x.to, I6 x.mi, I6 x.ma, l'.ls] ∧ TwE w N l'.ls x
theorem LxsOk.start (w : World) (N : Nat) (S : Sp) (xs : List Ex) : LxsOk w N S xs 0 [] := ⟨rfl, fun i l l' x _ h => by simp at h⟩
theorem LxsOk.extN {w w' : World} {N : Nat} {S : Sp} {xs : List Ex} {k : Nat} {ls : List Lx} {M : List Nat} (h : LxsOk w N S xs k ls) (hE : Ext M w w') (hM : ∀ x ∈ M, x < N) : LxsOk w' N S xs k ls :=
 ⟨h.len, fun i l l' x h1 h2 h3 => ⟨(h.is i l l' x h1 h2 h3).1, (h.is i l l' x h1 h2 h3).2.extN hE hM⟩⟩
theorem LxsOk.ext0 {w w' : World} {N : Nat} {S : Sp} {xs : List Ex} {k : Nat} {ls : List Lx} (h : LxsOk w N S xs k ls) (hE : Ext [] w w') : LxsOk w' N S xs k ls := h.extN hE fun x hx => by cases hx
theorem LxsOk.snoc {w : World} {N : Nat} {S : Sp} {xs : List Ex} {k : Nat} {ls : List Lx} (h : LxsOk w N S xs k ls) {l l' : Lx} {x : Ex} (hl : S.lx[k]? = some l) (hx : xs[k]? = some x) (hc : l'.cells = [.string l.nm, .bool l.tr, I6 x.kd, I6 x.fr, I6 x.to, I6 x.mi, I6 x.ma, l'.ls]) (hT : TwE w N l'.ls x) : LxsOk w N S xs (k + 1) (ls ++ [l']) :=
 ⟨by rw [List.length_append, h.len]; rfl, fun i a a' y h1 h2 h3 => by
  have hk := h.len
  rcases Nat.lt_or_ge i ls.length with h4 | h4
  ·rw [List.getElem?_append_left h4] at h2; exact h.is i a a' y h1 h2 h3
  ·have hi := (List.getElem?_eq_some_iff.1 h2).1
   rw [List.length_append, List.length_singleton] at hi
   obtain rfl : i = k := by omega
   rw [List.getElem?_append_right h4, hk, Nat.sub_self] at h2
   rw [hl] at h1; rw [hx] at h3
   cases h1; cases h2; cases h3
   exact ⟨hc, hT⟩⟩
structure PdsOk (w : World) (N : Nat) (S : Sp) (k : Nat) (qs : List Pd) : Prop where
 len : qs.length = k
 is : ∀ (i : Nat) (p q : Pd), S.ps[i]? = some p → qs[i]? = some q → q.l = p.l ∧ q.r = p.r ∧ ∃ g, q.ra = some ⟨g, 0, none⟩ ∧ q.rc = p.r.length + 1 ∧ N ≤ g ∧ OwnR w 61 2 g (p.r.length + 1) (p.r.length + 1) (ycells p.r ++ markY)
theorem PdsOk.start (w : World) (N : Nat) (S : Sp) : PdsOk w N S 0 [] := ⟨rfl, fun i p q _ h => by simp at h⟩
theorem PdsOk.extN {w w' : World} {N : Nat} {S : Sp} {k : Nat} {qs : List Pd} {M : List Nat} (h : PdsOk w N S k qs) (hE : Ext M w w') (hM : ∀ x ∈ M, x < N) : PdsOk w' N S k qs :=
 ⟨h.len, fun i p q h1 h2 => by
  obtain ⟨e1, e2, g, e3, e4, e5, e6⟩ := h.is i p q h1 h2
  exact ⟨e1, e2, g, e3, e4, e5, e6.ext hE fun hm => by have := hM _ hm; omega⟩⟩
theorem PdsOk.ext0 {w w' : World} {N : Nat} {S : Sp} {k : Nat} {qs : List Pd} (h : PdsOk w N S k qs) (hE : Ext [] w w') : PdsOk w' N S k qs := h.extN hE fun x hx => by cases hx
theorem PdsOk.snoc {w : World} {N : Nat} {S : Sp} {k : Nat} {qs : List Pd} (h : PdsOk w N S k qs) {p : Pd} {g : Nat} (hp : S.ps[k]? = some p) (hg : N ≤ g) (hO : OwnR w 61 2 g (p.r.length + 1) (p.r.length + 1) (ycells p.r ++ markY)) : PdsOk w N S (k + 1) (qs ++ [⟨p.l, some ⟨g, 0, none⟩, p.r.length + 1, p.r⟩]) :=
 ⟨by rw [List.length_append, h.len]; rfl, fun i a b h1 h2 => by
  have hk := h.len
  rcases Nat.lt_or_ge i qs.length with h4 | h4
  ·rw [List.getElem?_append_left h4] at h2; exact h.is i a b h1 h2
  ·have hi := (List.getElem?_eq_some_iff.1 h2).1
   rw [List.length_append, List.length_singleton] at hi
   obtain rfl : i = k := by omega
   rw [List.getElem?_append_right h4, hk, Nat.sub_self] at h2
   rw [hp] at h1
   cases h1; cases h2
   exact ⟨rfl, rfl, g, rfl, rfl, hg, hO⟩⟩
def lentS (S : Sp) (gl gn gp : Nat) (ls : List Lx) (qs : List Pd) : Sp := ⟨some ⟨gl, 0, none⟩, S.lx.length + 1, ls, some ⟨gn, 0, none⟩, S.ns.length + 1, S.ns, S.st, some ⟨gp, 0, none⟩, S.ps.length + 1, qs⟩
structure LentOk (w : World) (N : Nat) (S : Sp) (xs : List Ex) (gl gn gp : Nat) (ls : List Lx) (qs : List Pd) : Prop where
 lx : LxsOk w N S xs S.lx.length ls
 ps : PdsOk w N S S.ps.length qs
 ol : OwnR w 100 8 gl (S.lx.length + 1) (S.lx.length + 1) (lcells ls ++ markL)
 on : OwnR w 9 1 gn (S.ns.length + 1) (S.ns.length + 1) (ncells S.ns ++ [.string mk4])
 op : OwnR w 73 2 gp (S.ps.length + 1) (S.ps.length + 1) (pcells qs ++ markP)
 new : N ≤ gl ∧ N ≤ gn ∧ N ≤ gp
theorem LxsOk.mono {w : World} {N N' : Nat} {S : Sp} {xs : List Ex} {k : Nat} {ls : List Lx} (h : LxsOk w N S xs k ls) (hN : N' ≤ N) : LxsOk w N' S xs k ls :=
 ⟨h.len, fun i l l' x h1 h2 h3 => ⟨(h.is i l l' x h1 h2 h3).1, (h.is i l l' x h1 h2 h3).2.mono hN⟩⟩
theorem PdsOk.mono {w : World} {N N' : Nat} {S : Sp} {k : Nat} {qs : List Pd} (h : PdsOk w N S k qs) (hN : N' ≤ N) : PdsOk w N' S k qs :=
 ⟨h.len, fun i p q h1 h2 => by
  obtain ⟨e1, e2, g, e3, e4, e5, e6⟩ := h.is i p q h1 h2
  exact ⟨e1, e2, g, e3, e4, Nat.le_trans hN e5, e6⟩⟩
theorem LentOk.ca {w : World} {N : Nat} {S : Sp} {xs : List Ex} {gl gn gp : Nat} {ls : List Lx} {qs : List Pd} (h : LentOk w N S xs gl gn gp ls qs) : (lentS S gl gn gp ls qs).ca = #[.slice (some ⟨gl, 0, none⟩) S.lx.length (S.lx.length + 1), .slice (some ⟨gn, 0, none⟩) S.ns.length (S.ns.length + 1), I6 S.st, .slice (some ⟨gp, 0, none⟩) S.ps.length (S.ps.length + 1)] := by
 show (#[Value.slice _ ls.length _, _, _, Value.slice _ qs.length _] : Array Value) = _
 rw [h.lx.len, h.ps.len]; rfl
theorem LentOk.ext0 {w w' : World} {N : Nat} {S : Sp} {xs : List Ex} {gl gn gp : Nat} {ls : List Lx} {qs : List Pd} (h : LentOk w N S xs gl gn gp ls qs) (hE : Ext [] w w') : LentOk w' N S xs gl gn gp ls qs :=
 ⟨h.lx.ext0 hE, h.ps.ext0 hE, h.ol.ext hE (by simp), h.on.ext hE (by simp), h.op.ext hE (by simp), h.new⟩
theorem own_head {w : World} {e : TypeId} {k g cap len m : Nat} {A B : List Value} (h : OwnR w e k g cap len (A ++ B)) (hA : A.length = m * k) (hm : m ≤ cap) : RdV w k (.slice (some ⟨g, 0, none⟩) m cap) m A :=
 .inr ⟨g, 0, cap, rfl, hA, hm, fun j u hu => by rw [Nat.zero_add]; exact h.cellAt j (by rw [List.getElem?_append_left (List.getElem?_eq_some_iff.1 hu).1]; exact hu)⟩
theorem lcells_len (l : List Lx) : (lcells l).length = l.length * 8 := flat_len (k := 8) (fun _ => rfl) l
theorem ycells_len (l : List Sy) : (ycells l).length = l.length * 2 := flat_len (k := 2) (fun _ => rfl) l
theorem ncells_len (l : List ByteArray) : (ncells l).length = l.length := by simp [ncells]
theorem LentOk.sp {w0 w : World} {N : Nat} {S : Sp} {xs : List Ex} {gl gn gp : Nat} {ls : List Lx} {qs : List Pd} (h : LentOk w N S xs gl gn gp ls qs) (hG : SpOk w0 S) : SpOk w (lentS S gl gn gp ls qs) := by
 have h1 := h.lx.len
 have h2 := h.ps.len
 have hp : ∀ q ∈ qs, ∃ p ∈ S.ps, q.l = p.l ∧ q.r = p.r ∧ ∃ g, q.ra = some ⟨g, 0, none⟩ ∧ q.rc = p.r.length + 1 ∧ N ≤ g ∧ OwnR w 61 2 g (p.r.length + 1) (p.r.length + 1) (ycells p.r ++ markY) := fun q hq => by
  obtain ⟨i, hi⟩ := List.getElem?_of_mem hq
  obtain ⟨p, hpi⟩ : ∃ p, S.ps[i]? = some p := ⟨_, List.getElem?_eq_getElem (by have := (List.getElem?_eq_some_iff.1 hi).1; omega)⟩
  exact ⟨p, List.mem_of_getElem? hpi, h.ps.is i p q hpi hi⟩
 refine ⟨?_, ?_, ?_, fun q hq => ?_, ?_, hG.nmax, ?_, fun q hq => ?_⟩
 ·show RdV w 8 (.slice (some ⟨gl, 0, none⟩) ls.length (S.lx.length + 1)) ls.length (lcells ls)
  exact own_head h.ol (lcells_len ls) (by omega)
 ·show RdV w 1 (.slice (some ⟨gn, 0, none⟩) S.ns.length (S.ns.length + 1)) S.ns.length (ncells S.ns)
  exact own_head h.on (by rw [ncells_len, Nat.mul_one]) (by omega)
 ·show RdV w 2 (.slice (some ⟨gp, 0, none⟩) qs.length (S.ps.length + 1)) qs.length (pcells qs)
  exact own_head h.op (pcells_len qs) (by omega)
 ·obtain ⟨p, hpm, e1, e2, g, e3, e4, e5, e6⟩ := hp q hq
  show RdV w 2 (.slice q.ra q.r.length q.rc) q.r.length (ycells q.r)
  rw [e3, e4, e2]
  exact own_head e6 (ycells_len _) (by omega)
 ·show ls.length ≤ _
  have := hG.lmax; omega
 ·show qs.length ≤ _
  have := hG.pmax; omega
 ·obtain ⟨p, hpm, e1, e2, _⟩ := hp q hq
  rw [e2]; exact hG.rmax p hpm
/-! ### rows that are written one after the other -/
theorem fill_step {α : Type} {f : α → List Value} {k : Nat} (hf : ∀ x, (f x).length = k) {A : List α} {xm : List Value} {i n : Nat} (a : α) (hA : A.length = i) (hl : xm.length = n * k) (hi : i < n) :
  setL (A.flatMap f ++ xm.drop (i * k)) (0 + i * k) (f a) = (A ++ [a]).flatMap f ++ xm.drop ((i + 1) * k) := by
 have h1 : i * k + k ≤ n * k := by have := Nat.mul_le_mul_right k hi; rwa [Nat.succ_mul] at this
 rw [setL_app (by rw [flat_len hf, hA, Nat.zero_add]) (by rw [List.length_drop, hf]; omega), hf, List.drop_drop, List.flatMap_append, List.flatMap_singleton, Nat.succ_mul]
theorem fill_mark {A xm mk : List Value} {i k : Nat} (hA : A.length = i * k) (hl : xm.length = (i + 1) * k) (hm : mk.length = k) : setL (A ++ xm.drop (i * k)) (0 + i * k) mk = A ++ mk := by
 rw [Nat.succ_mul] at hl
 rw [setL_app (by rw [hA, Nat.zero_add]) (by rw [List.length_drop, hm]; omega), hm, List.drop_drop, List.drop_eq_nil_of_le (by omega), List.append_nil]
theorem fill_one {A xm : List Value} {i : Nat} (v : Value) (hA : A.length = i) (hl : xm.length = (i + 1) * 1) : (A ++ xm.drop (i * 1)).set (0 + i * 1) v = A ++ [v] := fill_mark (A := A) (xm := xm) (mk := [v]) (i := i) (k := 1) (by omega) hl rfl
theorem ncells_one : ∀ l : List ByteArray, oneAll (ncells l) = true
 | [] => rfl
 | _ :: l => ncells_one l
end Go.Proofs.YtkkpghlcmcaoiaaDoor
