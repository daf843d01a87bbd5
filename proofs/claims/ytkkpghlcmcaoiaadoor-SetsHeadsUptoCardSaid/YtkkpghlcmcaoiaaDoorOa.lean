import Derived.Test.YtkkpghlcmcaoiaaDoorEx
import Derived.Test.YtkkpghlcmcaoiaaDoorOs
namespace Go.Proofs.YtkkpghlcmcaoiaaDoor
open Go.Vc Go.Gm
structure PatOk (w : World) (S : Sp) (xs : List Ex) : Prop where
 len : xs.length = S.lx.length
 is : ∀ (i : Nat) (l : Lx) (x : Ex), S.lx[i]? = some l → xs[i]? = some x → l.cells = [.string l.nm, .bool l.tr, I6 x.kd, I6 x.fr, I6 x.to, I6 x.mi, I6 x.ma, x.ls]
 ok : ∀ x ∈ xs, Ex.Ok w x
theorem PatOk.ext0 {w w' : World} {S : Sp} {xs : List Ex} (h : PatOk w S xs) (hE : Ext [] w w') : PatOk w' S xs := ⟨h.len, h.is, fun x hx => (h.ok x hx).ext0 hE⟩
theorem lcells_is {l : List Lx} {j i : Nat} {x : Lx} {cs : List Value} (h : l[j]? = some x) (hc : x.cells = cs) (hi : i < 8) : (lcells l)[j * 8 + i]? = cs[i]? := by rw [← hc]; exact lcells_at l j i x h hi
def mk4 : ByteArray := ⟨#[109, 97, 114, 107]⟩
def markL : List Value := [.string mk4, .bool false, I6 0, I6 0, I6 0, I6 0, I6 0, .slice none 0 0]
def markP : List Value := [I6 (-77), .slice none 0 0]
def markY : List Value := [I6 77, I6 0]
structure LxsOk (w : World) (N : Nat) (S : Sp) (xs : List Ex) (k : Nat) (ls : List Lx) : Prop where
 len : ls.length = k
 is : ∀ (i : Nat) (l l' : Lx) (x : Ex), S.lx[i]? = some l → ls[i]? = some l' → xs[i]? = some x → l'.cells = [.string l.nm, .bool l.tr, I6 x.kd, I6 x.fr, I6 x.to, I6 x.mi, I6 x.ma, l'.ls] ∧ TwE w N l'.ls x
theorem LxsOk.start (w : World) (N : Nat) (S : Sp) (xs : List Ex) : LxsOk w N S xs 0 [] := ⟨rfl, fun i l l' x _ h => by simp at h⟩
theorem LxsOk.extN {w w' : World} {N : Nat} {S : Sp} {xs : List Ex} {k : Nat} {ls : List Lx} {M : List Nat} (h : LxsOk w N S xs k ls) (hE : Ext M w w') (hM : ∀ x ∈ M, x < N) : LxsOk w' N S xs k ls :=
 ⟨h.len, fun i l l' x h1 h2 h3 => ⟨(h.is i l l' x h1 h2 h3).1, (h.is i l l' x h1 h2 h3).2.extN hE hM⟩⟩
theorem LxsOk.ext0 {w w' : World} {N : Nat} {S : Sp} {xs : List Ex} {k : Nat} {ls : List Lx} (h : LxsOk w N S xs k ls) (hE : Ext [] w w') : LxsOk w' N S xs k ls := h.extN hE fun x hx => by cases hx
theorem LxsOk.snoc {w : World} {N : Nat} {S : Sp} {xs : List Ex} {k : Nat} {ls : List Lx} (h : LxsOk w N S xs k ls) {l l' : Lx} {x : Ex} (hl : S.lx[k]? = some l) (hx : xs[k]? = some x) (hc : l'.cells = [.string l.nm, .bool l.tr, I6 x.kd, I6 x.fr, I6 x.to, I6 x.mi, I6 x.ma, l'.ls]) (hT : TwE w N l'.ls x) : LxsOk w N S xs (k + 1) (ls ++ [l']) :=
 ⟨by rw [List.length_append, h.len]; rfl, fun i a a' y h1 h2 h3 => by
  have hk := h.len
  rcases Nat.lt_or_ge i ls.length with h4 | h4
  ·rw [List.getElem?_append_left h4] at h2; exact h.is i a a' y h1 h2 h3
  ·have hi := (List.getElem?_eq_some_iff.1 h2).1
   rw [List.length_append, List.length_singleton] at hi
   obtain rfl : i = k := by omega
   rw [List.getElem?_append_right h4, hk, Nat.sub_self] at h2
   rw [hl] at h1; rw [hx] at h3
   cases h1; cases h2; cases h3
   exact ⟨hc, hT⟩⟩
structure PdsOk (w : World) (N : Nat) (S : Sp) (k : Nat) (qs : List Pd) : Prop where
 len : qs.length = k
 is : ∀ (i : Nat) (p q : Pd), S.ps[i]? = some p → qs[i]? = some q → q.l = p.l ∧ q.r = p.r ∧ ∃ g, q.ra = some ⟨g, 0, none⟩ ∧ q.rc = p.r.length + 1 ∧ N ≤ g ∧ OwnR w 61 2 g (p.r.length + 1) (p.r.length + 1) (ycells p.r ++ markY)
theorem PdsOk.start (w : World) (N : Nat) (S : Sp) : PdsOk w N S 0 [] := ⟨rfl, fun i p q _ h => by simp at h⟩
theorem PdsOk.extN {w w' : World} {N : Nat} {S : Sp} {k : Nat} {qs : List Pd} {M : List Nat} (h : PdsOk w N S k qs) (hE : Ext M w w') (hM : ∀ x ∈ M, x < N) : PdsOk w' N S k qs :=
 ⟨h.len, fun i p q h1 h2 => by
  obtain ⟨e1, e2, g, e3, e4, e5, e6⟩ := h.is i p q h1 h2
  exact ⟨e1, e2, g, e3, e4, e5, e6.ext hE fun hm => by have := hM _ hm; omega⟩⟩
theorem PdsOk.ext0 {w w' : World} {N : Nat} {S : Sp} {k : Nat} {qs : List Pd} (h : PdsOk w N S k qs) (hE : Ext [] w w') : PdsOk w' N S k qs := h.extN hE fun x hx => by cases hx
theorem PdsOk.snoc {w : World} {N : Nat} {S : Sp} {k : Nat} {qs : List Pd} (h : PdsOk w N S k qs) {p : Pd} {g : Nat} (hp : S.ps[k]? = some p) (hg : N ≤ g) (hO : OwnR w 61 2 g (p.r.length + 1) (p.r.length + 1) (ycells p.r ++ markY)) : PdsOk w N S (k + 1) (qs ++ [⟨p.l, some ⟨g, 0, none⟩, p.r.length + 1, p.r⟩]) :=
 ⟨by rw [List.length_append, h.len]; rfl, fun i a b h1 h2 => by
  have hk := h.len
  rcases Nat.lt_or_ge i qs.length with h4 | h4
  ·rw [List.getElem?_append_left h4] at h2; exact h.is i a b h1 h2
  ·have hi := (List.getElem?_eq_some_iff.1 h2).1
   rw [List.length_append, List.length_singleton] at hi
   obtain rfl : i = k := by omega
   rw [List.getElem?_append_right h4, hk, Nat.sub_self] at h2
   rw [hp] at h1
   cases h1; cases h2
   exact ⟨rfl, rfl, g, rfl, rfl, hg, hO⟩⟩
def lentS (S : Sp) (gl gn gp : Nat) (ls : List Lx) (qs : List Pd) : Sp := ⟨some ⟨gl, 0, none⟩, S.lx.length + 1, ls, some ⟨gn, 0, none⟩, S.ns.length + 1, S.ns, S.st, some ⟨gp, 0, none⟩, S.ps.length + 1, qs⟩
structure LentOk (w : World) (N : Nat) (S : Sp) (xs : List Ex) (gl gn gp : Nat) (ls : List Lx) (qs : List Pd) : Prop where
 lx : LxsOk w N S xs S.lx.length ls
 ps : PdsOk w N S S.ps.length qs
 ol : OwnR w 100 8 gl (S.lx.length + 1) (S.lx.length + 1) (lcells ls ++ markL)
 on : OwnR w 9 1 gn (S.ns.length + 1) (S.ns.length + 1) (ncells S.ns ++ [.string mk4])
 op : OwnR w 73 2 gp (S.ps.length + 1) (S.ps.length + 1) (pcells qs ++ markP)
 new : N ≤ gl ∧ N ≤ gn ∧ N ≤ gp
theorem LxsOk.mono {w : World} {N N' : Nat} {S : Sp} {xs : List Ex} {k : Nat} {ls : List Lx} (h : LxsOk w N S xs k ls) (hN : N' ≤ N) : LxsOk w N' S xs k ls :=
 ⟨h.len, fun i l l' x h1 h2 h3 => ⟨(h.is i l l' x h1 h2 h3).1, (h.is i l l' x h1 h2 h3).2.mono hN⟩⟩
theorem PdsOk.mono {w : World} {N N' : Nat} {S : Sp} {k : Nat} {qs : List Pd} (h : PdsOk w N S k qs) (hN : N' ≤ N) : PdsOk w N' S k qs :=
 ⟨h.len, fun i p q h1 h2 => by
  obtain ⟨e1, e2, g, e3, e4, e5, e6⟩ := h.is i p q h1 h2
  exact ⟨e1, e2, g, e3, e4, Nat.le_trans hN e5, e6⟩⟩
theorem LentOk.ca {w : World} {N : Nat} {S : Sp} {xs : List Ex} {gl gn gp : Nat} {ls : List Lx} {qs : List Pd} (h : LentOk w N S xs gl gn gp ls qs) : (lentS S gl gn gp ls qs).ca = #[.slice (some ⟨gl, 0, none⟩) S.lx.length (S.lx.length + 1), .slice (some ⟨gn, 0, none⟩) S.ns.length (S.ns.length + 1), I6 S.st, .slice (some ⟨gp, 0, none⟩) S.ps.length (S.ps.length + 1)] := by
 show (#[Value.slice _ ls.length _, _, _, Value.slice _ qs.length _] : Array Value) = _
 rw [h.lx.len, h.ps.len]; rfl
theorem LentOk.ext0 {w w' : World} {N : Nat} {S : Sp} {xs : List Ex} {gl gn gp : Nat} {ls : List Lx} {qs : List Pd} (h : LentOk w N S xs gl gn gp ls qs) (hE : Ext [] w w') : LentOk w' N S xs gl gn gp ls qs :=
 ⟨h.lx.ext0 hE, h.ps.ext0 hE, h.ol.ext hE (by simp), h.on.ext hE (by simp), h.op.ext hE (by simp), h.new⟩
theorem own_head {w : World} {e : TypeId} {k g cap len m : Nat} {A B : List Value} (h : OwnR w e k g cap len (A ++ B)) (hA : A.length = m * k) (hm : m ≤ cap) : RdV w k (.slice (some ⟨g, 0, none⟩) m cap) m A :=
 .inr ⟨g, 0, cap, rfl, hA, hm, fun j u hu => by rw [Nat.zero_add]; exact h.cellAt j (by rw [List.getElem?_append_left (List.getElem?_eq_some_iff.1 hu).1]; exact hu)⟩
theorem lcells_len (l : List Lx) : (lcells l).length = l.length * 8 := flat_len (k := 8) (fun _ => rfl) l
theorem ycells_len (l : List Sy) : (ycells l).length = l.length * 2 := flat_len (k := 2) (fun _ => rfl) l
theorem ncells_len (l : List ByteArray) : (ncells l).length = l.length := by simp [ncells]
theorem LentOk.sp {w0 w : World} {N : Nat} {S : Sp} {xs : List Ex} {gl gn gp : Nat} {ls : List Lx} {qs : List Pd} (h : LentOk w N S xs gl gn gp ls qs) (hG : SpOk w0 S) : SpOk w (lentS S gl gn gp ls qs) := by
 have h1 := h.lx.len
 have h2 := h.ps.len
 have hp : ∀ q ∈ qs, ∃ p ∈ S.ps, q.l = p.l ∧ q.r = p.r ∧ ∃ g, q.ra = some ⟨g, 0, none⟩ ∧ q.rc = p.r.length + 1 ∧ N ≤ g ∧ OwnR w 61 2 g (p.r.length + 1) (p.r.length + 1) (ycells p.r ++ markY) := fun q hq => by
  obtain ⟨i, hi⟩ := List.getElem?_of_mem hq
  obtain ⟨p, hpi⟩ : ∃ p, S.ps[i]? = some p := ⟨_, List.getElem?_eq_getElem (by have := (List.getElem?_eq_some_iff.1 hi).1; omega)⟩
  exact ⟨p, List.mem_of_getElem? hpi, h.ps.is i p q hpi hi⟩
 refine ⟨?_, ?_, ?_, fun q hq => ?_, ?_, hG.nmax, ?_, fun q hq => ?_⟩
 ·show RdV w 8 (.slice (some ⟨gl, 0, none⟩) ls.length (S.lx.length + 1)) ls.length (lcells ls)
  exact own_head h.ol (lcells_len ls) (by omega)
 ·show RdV w 1 (.slice (some ⟨gn, 0, none⟩) S.ns.length (S.ns.length + 1)) S.ns.length (ncells S.ns)
  exact own_head h.on (by rw [ncells_len, Nat.mul_one]) (by omega)
 ·show RdV w 2 (.slice (some ⟨gp, 0, none⟩) qs.length (S.ps.length + 1)) qs.length (pcells qs)
  exact own_head h.op (pcells_len qs) (by omega)
 ·obtain ⟨p, hpm, e1, e2, g, e3, e4, e5, e6⟩ := hp q hq
  show RdV w 2 (.slice q.ra q.r.length q.rc) q.r.length (ycells q.r)
  rw [e3, e4, e2]
  exact own_head e6 (ycells_len _) (by omega)
 ·show ls.length ≤ _
  have := hG.lmax; omega
 ·show qs.length ≤ _
  have := hG.pmax; omega
 ·obtain ⟨p, hpm, e1, e2, _⟩ := hp q hq
  rw [e2]; exact hG.rmax p hpm
/-! ### rows that are written one after the other -/
theorem fill_step {α : Type} {f : α → List Value} {k : Nat} (hf : ∀ x, (f x).length = k) {A : List α} {xm : List Value} {i n : Nat} (a : α) (hA : A.length = i) (hl : xm.length = n * k) (hi : i < n) :
  setL (A.flatMap f ++ xm.drop (i * k)) (0 + i * k) (f a) = (A ++ [a]).flatMap f ++ xm.drop ((i + 1) * k) := by
 have h1 : i * k + k ≤ n * k := by have := Nat.mul_le_mul_right k hi; rwa [Nat.succ_mul] at this
 rw [setL_app (by rw [flat_len hf, hA, Nat.zero_add]) (by rw [List.length_drop, hf]; omega), hf, List.drop_drop, List.flatMap_append, List.flatMap_singleton, Nat.succ_mul]
theorem fill_mark {A xm mk : List Value} {i k : Nat} (hA : A.length = i * k) (hl : xm.length = (i + 1) * k) (hm : mk.length = k) : setL (A ++ xm.drop (i * k)) (0 + i * k) mk = A ++ mk := by
 rw [Nat.succ_mul] at hl
 rw [setL_app (by rw [hA, Nat.zero_add]) (by rw [List.length_drop, hm]; omega), hm, List.drop_drop, List.drop_eq_nil_of_le (by omega), List.append_nil]
theorem fill_one {A xm : List Value} {i : Nat} (v : Value) (hA : A.length = i) (hl : xm.length = (i + 1) * 1) : (A ++ xm.drop (i * 1)).set (0 + i * 1) v = A ++ [v] := fill_mark (A := A) (xm := xm) (mk := [v]) (i := i) (k := 1) (by omega) hl rfl
theorem ncells_one : ∀ l : List ByteArray, oneAll (ncells l) = true
 | [] => rfl
 | _ :: l => ncells_one l
end Go.Proofs.YtkkpghlcmcaoiaaDoor
namespace Go.Proofs.YtkkpghlcmcaoiaaDoor
open Go.Vc Go.Gm Go.ChangeShapes Go.WideShapes Go.ChangeAt Go.RowKit Go.Joins
section
variable {H : Type} {enc : TypeId × Value → H} {W : World}
instance : Inhabited Ex := ⟨.mk 0 0 0 0 0 none 0 []⟩
theorem ecells_one : ∀ l : List Ex, oneAll (ecells l) = true
 | [] => rfl
 | _ :: l => ecells_one l
set_option maxRecDepth 100000 in
theorem open_ex : ∀ (N : Nat) {fuel : Nat} {cs : List Value} {x : DataW H × List MemPlace}, Rows.uptoBulk x.1 < N → DataW.trod enc Tryd.prog W 0 (fun _ => true) true fuel 98 cs = some x → Bk x.1 → ∃ e : Ex, cs = e.cells ∧ Ex.Ok W e
 | 0, _, _, _, hN, _, _ => by omega
 | N + 1, fuel, cs, x, hN, h, hk => by
  obtain ⟨ys, n, rfl, hyy, hlen, hyl, hg⟩ := DataW.trod_struct Tryd.underlying98 h
  subst hyy
  rw [cells98] at hlen
  match ys, hyl, cs, hlen with
  | [y0, y1, y2, y3, y4, y5], _, [c0, c1, c2, c3, c4, c5], _ =>
   have k0 := hg 0 _ rfl
   have k1 := hg 1 _ rfl
   have k2 := hg 2 _ rfl
   have k3 := hg 3 _ rfl
   have k4 := hg 4 _ rfl
   have k5 := hg 5 _ rfl
   simp [cells3, cells96] at k0 k1 k2 k3 k4 k5
   obtain ⟨a0, f0, _⟩ := DataW.trod_int Tryd.underlying3 k0
   obtain ⟨a1, f1, _⟩ := DataW.trod_int Tryd.underlying3 k1
   obtain ⟨a2, f2, _⟩ := DataW.trod_int Tryd.underlying3 k2
   obtain ⟨a3, f3, _⟩ := DataW.trod_int Tryd.underlying3 k3
   obtain ⟨a4, f4, _⟩ := DataW.trod_int Tryd.underlying3 k4
   have hb5 : Rows.uptoBulk y5.1 < N := by
    simp only [List.map_cons, List.map_nil, Rows.uptoBulk, Rows.uptoBulkAll] at hN
    omega
   obtain ⟨a, c, l, f5, h1, h2, h3⟩ := open_rowsB (α := Ex) (k := 6) Ex.cells (fun _ => rfl) (Ex.Ok W) Tryd.underlying96 cells98 (by omega) (fun _ _ y hy h hb => open_ex N (by omega) h hb) k5 (bk_agg hk (by simp))
   simp only [List.cons.injEq, and_true] at f0 f1 f2 f3 f4 f5
   subst f0 f1 f2 f3 f4 f5
   exact ⟨.mk a0 a1 a2 a3 a4 a c l, rfl, .mk h1 h3 (ecells_one l) h2⟩
def LxP (W : World) (l : Lx) (x : Ex) : Prop := l.cells = [.string l.nm, .bool l.tr, I6 x.kd, I6 x.fr, I6 x.to, I6 x.mi, I6 x.ma, x.ls] ∧ Ex.Ok W x
set_option maxRecDepth 100000 in
theorem open_lexP {fuel : Nat} {cs : List Value} {x : DataW H × List MemPlace} (h : DataW.trod enc Tryd.prog W 0 (fun _ => true) true fuel 100 cs = some x) (hk : Bk x.1) : ∃ l : Lx, cs = l.cells ∧ ∃ x, LxP W l x := by
 obtain ⟨xs, n, rfl, hxx, hlen, hxl, hf⟩ := DataW.trod_struct Tryd.underlying100 h
 subst hxx
 rw [cells100] at hlen
 match xs, hxl, cs, hlen with
 | [x0, x1, x2], _, [c0, c1, c2, c3, c4, c5, c6, c7], _ =>
  have g0 := hf 0 _ rfl
  have g1 := hf 1 _ rfl
  have g2 := hf 2 _ rfl
  simp [cells9, cells4, cells98] at g0 g1 g2
  obtain ⟨z0, e0, _⟩ := DataW.trod_string Tryd.underlying9 g0
  obtain ⟨z1, e1, _⟩ := DataW.trod_bool Tryd.underlying4 g1
  obtain ⟨e, e2, he⟩ := open_ex _ (Nat.lt_succ_self _) g2 (bk_agg hk (by simp))
  unfold Ex.cells Ex.cellsW at e2
  simp only [List.cons.injEq, and_true] at e0 e1 e2
  obtain ⟨q0, q1, q2, q3, q4, q5⟩ := e2
  subst e0 e1 q0 q1 q2 q3 q4 q5
  exact ⟨⟨z0, z1, e.kd, e.fr, e.to, e.mi, e.ma, e.ls⟩, rfl, e, rfl, he⟩
theorem choose_all {α β : Type} {R : α → β → Prop} : ∀ {l : List α}, (∀ a ∈ l, ∃ b, R a b) → ∃ m : List β, m.length = l.length ∧ ∀ (i : Nat) (a : α) (b : β), l[i]? = some a → m[i]? = some b → R a b
 | [], _ => ⟨[], rfl, fun i a b h => by simp at h⟩
 | a :: l, h => by
  obtain ⟨b, hb⟩ := h a (by simp)
  obtain ⟨m, hm, hr⟩ := choose_all (l := l) (fun x hx => h x (by simp [hx]))
  refine ⟨b :: m, by simp [hm], fun i x y h1 h2 => ?_⟩
  cases i with
  | zero => simp at h1 h2; subst h1; subst h2; exact hb
  | succ i => exact hr i x y (by simpa using h1) (by simpa using h2)
theorem open_spec4 {fuel : Nat} {c0 c1 c2 c3 : Value} {y0 y1 y2 y3 : DataW H × List MemPlace} (t0 : DataW.trod enc Tryd.prog W 0 (fun _ => true) true fuel 22 [c0] = some y0) (t1 : DataW.trod enc Tryd.prog W 0 (fun _ => true) true fuel 23 [c1] = some y1) (t2 : DataW.trod enc Tryd.prog W 0 (fun _ => true) true fuel 3 [c2] = some y2) (t3 : DataW.trod enc Tryd.prog W 0 (fun _ => true) true fuel 24 [c3] = some y3) (b0 : Bk y0.1) (b1 : Bk y1.1) (b3 : Bk y3.1) :
  ∃ S : Sp, c0 = S.lv ∧ c1 = S.nv ∧ c2 = I6 S.st ∧ c3 = S.pv ∧ SpOk W S ∧ ∃ xs, PatOk W S xs := by
 obtain ⟨la, lc, lx, e0, h0, hlx, m0⟩ := open_rows (α := Lx) (k := 8) Lx.cells (fun _ => rfl) (fun l => ∃ x, LxP W l x) Tryd.underlying22 cells100 (by omega) (fun _ _ _ h hb => open_lexP h hb) t0 b0
 obtain ⟨na, nc, ns, e1, h1, _, m1⟩ := open_rows (α := ByteArray) (k := 1) (fun s => [.string s]) (fun _ => rfl) (fun _ => True) Tryd.underlying23 cells9 (by omega) (fun _ _ _ h hb => open_name h hb) t1 b1
 obtain ⟨z, e2, _⟩ := DataW.trod_int Tryd.underlying3 t2
 obtain ⟨pa, pc, ps, e3, h3, hps, m3⟩ := open_rows (α := Pd) (k := 2) Pd.cells (fun _ => rfl) (fun p => RdV W 2 p.rv p.r.length (ycells p.r) ∧ p.r.length ≤ 1048576) Tryd.underlying24 cells73 (by omega) (fun _ _ _ h hb => open_prod h hb) t3 b3
 simp only [List.cons.injEq, and_true] at e0 e1 e2 e3
 subst e0 e1 e2 e3
 obtain ⟨xs, hxl, hxs⟩ := choose_all hlx
 refine ⟨⟨la, lc, lx, na, nc, ns, z, pa, pc, ps⟩, rfl, rfl, rfl, rfl, ⟨h0, ?_, h3, fun p hp => (hps p hp).1, m0, m1, m3, fun p hp => (hps p hp).2⟩, xs, hxl, fun i l x hl hx => (hxs i l x hl hx).1, fun x hx => ?_⟩
 ·rw [ncells_flat]; exact h1
 ·obtain ⟨i, hi⟩ := List.getElem?_of_mem hx
  obtain ⟨l, hl⟩ : ∃ l, lx[i]? = some l := ⟨_, List.getElem?_eq_getElem (by have := (List.getElem?_eq_some_iff.1 hi).1; omega)⟩
  exact (hxs i l x hl hi).2
set_option maxRecDepth 100000 in
theorem open_specP {v : Value} {d : DataW H} {p : List MemPlace} {r : Reach} {b0 : Nat} (hv : Value.okWide Tryd.prog W r b0 26 v) (h : DataW.Trod enc Tryd.prog W 0 (fun _ => true) true 26 v d p) (hk : Bk d) : ∃ S : Sp, v = .agg #[S.lv, S.nv, I6 S.st, S.pv] ∧ (SpOk W S ∧ ∃ xs, PatOk W S xs) := by
 obtain ⟨c0, c1, c2, c3, y0, y1, y2, y3, n, rfl, rfl, rfl, t0, t1, t2, t3⟩ := open_agg4 Tryd.underlying26 (by kernel_rfl) (by kernel_rfl) hv h
 obtain ⟨S, rfl, rfl, rfl, rfl, h1⟩ := open_spec4 t0 t1 t2 t3 (bk_agg hk (by simp)) (bk_agg hk (by simp)) (bk_agg hk (by simp))
 exact ⟨S, rfl, h1⟩
instance : Inhabited Sp := ⟨⟨none, 0, [], none, 0, [], 0, none, 0, []⟩⟩
end
end Go.Proofs.YtkkpghlcmcaoiaaDoor
namespace Go.Proofs.YtkkpghlcmcaoiaaDoor
open Go.Vc Go.Gm
structure Ak where
 ra : Option Addr
 rc : Nat
 r : List Sy
 ta : Option Addr
 tc : Nat
 ts : List Int
def Ak.rv (x : Ak) : Value := .slice x.ra x.r.length x.rc
def Ak.tv (x : Ak) : Value := .slice x.ta x.ts.length x.tc
def Ak.cells (x : Ak) : List Value := [x.rv, x.tv]
structure Ak.Ok (w : World) (x : Ak) : Prop where
 r : RdV w 2 x.rv x.r.length (ycells x.r)
 rm : x.r.length ≤ 1048576
 t : RdV w 1 x.tv x.ts.length (its x.ts)
 tm : x.ts.length ≤ 1048576
def acells (l : List Ak) : List Value := l.flatMap Ak.cells
theorem acells_at {l : List Ak} {j i : Nat} {x : Ak} (h : l[j]? = some x) (hi : i < 2) : (acells l)[j * 2 + i]? = x.cells[i]? := flat_at (k := 2) (fun _ => rfl) l j i x h hi
end Go.Proofs.YtkkpghlcmcaoiaaDoor
namespace Go.Proofs.YtkkpghlcmcaoiaaDoor
open Go.Vc Go.Gm Go.WideShapes Go.ChangeShapes Go.ChangeAt Go.RowKit Go.Joins
section
variable {H : Type} {enc : TypeId × Value → H} {W : World}
theorem cells77 : Tryd.prog.cellsOf 77 = 2 := by kernel_rfl
theorem cells51 : Tryd.prog.cellsOf 51 = 1 := by kernel_rfl
instance : Inhabited Ak := ⟨⟨none, 0, [], none, 0, []⟩⟩
set_option maxRecDepth 100000 in
theorem open_ask {fuel : Nat} {cs : List Value} {x : DataW H × List MemPlace} (h : DataW.trod enc Tryd.prog W 0 (fun _ => true) true fuel 77 cs = some x) (hk : Bk x.1) : ∃ a : Ak, cs = a.cells ∧ Ak.Ok W a := by
 obtain ⟨xs, n, rfl, hxx, hlen, hxl, hf⟩ := DataW.trod_struct Tryd.underlying77 h
 subst hxx
 rw [cells77] at hlen
 match xs, hxl, cs, hlen with
 | [x0, x1], _, [c0, c1], _ =>
  have g0 := hf 0 _ rfl
  have g1 := hf 1 _ rfl
  simp [cells71, cells51] at g0 g1
  obtain ⟨a, c, l, e0, h1, _, h2⟩ := open_rows (α := Sy) (k := 2) (fun s => [I6 s.1, I6 s.2]) (fun _ => rfl) (fun _ => True) Tryd.underlying71 cells61 (by omega) (fun _ _ _ h hb => open_sym h hb) g0 (bk_agg hk (by simp))
  obtain ⟨a', c', l', e1, h3, _, h4⟩ := open_rows (α := Int) (k := 1) (fun z => [I6 z]) (fun _ => rfl) (fun _ => True) Tryd.underlying51 cells3 (by omega) (fun _ _ _ h _ => by
   obtain ⟨z, e, _⟩ := DataW.trod_int Tryd.underlying3 h
   exact ⟨z, e, trivial⟩) g1 (bk_agg hk (by simp))
  simp only [List.cons.injEq, and_true] at e0 e1
  subst e0 e1
  exact ⟨⟨a, c, l, a', c', l'⟩, rfl, h1, h2, by rw [its_flat]; exact h3, h4⟩
theorem open_asks {a0 : Option Addr} {len0 cap0 : Nat} {d : DataW H} {p : List MemPlace} (h : DataW.Trod enc Tryd.prog W 0 (fun _ => true) true 75 (.slice a0 len0 cap0) d p) (hk : Bk d) : ∃ As : List Ak, RdV W 2 (.slice a0 len0 cap0) As.length (acells As) ∧ (∀ a ∈ As, Ak.Ok W a) ∧ As.length ≤ 1048576 := by
 obtain ⟨fuel, h⟩ := h
 obtain ⟨a, c, l, e0, h1, h2, m⟩ := open_rows (α := Ak) (k := 2) Ak.cells (fun _ => rfl) (fun a => Ak.Ok W a) Tryd.underlying75 cells77 (by omega) (fun _ _ _ h hb => open_ask h hb) h hk
 simp only [Value.cells] at e0
 simp at e0
 obtain ⟨rfl, rfl, rfl⟩ := e0
 exact ⟨l, h1, h2, m⟩
end
end Go.Proofs.YtkkpghlcmcaoiaaDoor
