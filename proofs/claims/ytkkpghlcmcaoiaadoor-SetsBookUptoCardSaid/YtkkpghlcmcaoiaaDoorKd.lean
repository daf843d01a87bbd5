import Derived.Test.YtkkpghlcmcaoiaaDoorS46
import Derived.Test.YtkkpghlcmcaoiaaDoorSa
import Derived.Test.YtkkpghlcmcaoiaaDoorS31
import Derived.Test.YtkkpghlcmcaoiaaDoorS72
import Derived.Test.YtkkpghlcmcaoiaaDoorOd
namespace Go.Proofs.YtkkpghlcmcaoiaaDoor
open Go.Vc Go.Gm
theorem tw_list {w : World} {R : Value → Ex → Prop} : ∀ {l : List Ex} {vs : List Value}, vs.length = l.length → (∀ (i : Nat) (v : Value) (k : Ex), vs[i]? = some v → l[i]? = some k → R v k) →
  (∀ v k, R v k → ∃ x : Ex, x.Ok w ∧ x.cells = k.cellsW v) → ∃ m : List Ex, m.length = l.length ∧ zcells l vs = ecells m ∧ ∀ x ∈ m, Ex.Ok w x
 | [], [], _, _, _ => ⟨[], rfl, rfl, fun x hx => by cases hx⟩
 | e :: l, v :: vs, h, hR, hx => by
  obtain ⟨x, h1, h2⟩ := hx v e (hR 0 v e rfl rfl)
  obtain ⟨m, h3, h4, h5⟩ := tw_list (l := l) (vs := vs) (by simpa using h) (fun i v k hv hk => hR (i + 1) v k hv hk) hx
  refine ⟨x :: m, by simp [h3], by rw [zcells, h4, ← h2]; rfl, fun y hy => ?_⟩
  rcases List.mem_cons.1 hy with rfl | hy
  ·exact h1
  ·exact h5 y hy
theorem Tw.ok {w : World} {N : Nat} {v : Value} {e : Ex} (h : Tw w N v e) : ∃ x : Ex, x.Ok w ∧ x.cells = e.cellsW v := by
 induction h with
 | @nil e h => exact ⟨.mk e.kd e.fr e.to e.mi e.ma none 0 [], .mk (.inl ⟨_, _, rfl, rfl, rfl⟩) (by simp) rfl (fun k hk => by cases hk), rfl⟩
 | @row g e vs h1 h2 h3 h4 h5 h6 ih =>
  obtain ⟨m, h7, h8, h9⟩ := tw_list (w := w) (R := fun v k => ∃ x : Ex, x.Ok w ∧ x.cells = k.cellsW v) h3 ih fun v k h => h
  refine ⟨.mk e.kd e.fr e.to e.mi e.ma (some ⟨g, 0, none⟩) (e.kids.length + 1) m, .mk ?_ (by omega) (ecells_one m) h9, ?_⟩
  ·rw [h7, ← h8]
   exact own_head h4 (zcells_len h3) (by omega)
  ·show [_, _, _, _, _, _] = [_, _, _, _, _, _]
   simp only [Ex.ls, Ex.la, Ex.lc, Ex.kids, Ex.kd, Ex.fr, Ex.to, Ex.mi, Ex.ma, h7]
theorem TwE.ok {w : World} {N : Nat} {v : Value} {e : Ex} (h : TwE w N v e) (he : e.Ok w) : ∃ x : Ex, x.Ok w ∧ x.cells = e.cellsW v := by
 obtain ⟨z, _, h | h⟩ := h
 ·exact h.2.ok
 ·exact ⟨e, he, by rw [h.2]; rfl⟩
theorem Tw.extT {w w' : World} {N b t : Nat} {cs : Array Value} {v : Value} {e : Ex} (h : Tw w N v e) (hE : Ext [b] w w') (hB : Blk w b t cs) (ht : 98 ≠ t) : Tw w' N v e := by
 induction h with
 | nil h => exact .nil h
 | row h1 h2 h3 h4 h5 _ ih => exact .row h1 h2 h3 (h4.ext hE (by simpa using OwnR.ne_type h4 hB ht)) h5 fun i v k hv hk => ih i v k hv hk
theorem LxsOk.extT {w w' : World} {N b t k : Nat} {cs : Array Value} {S : Sp} {xs : List Ex} {ls : List Lx} (h : LxsOk w N S xs k ls) (hE : Ext [b] w w') (hB : Blk w b t cs) (ht : 98 ≠ t) : LxsOk w' N S xs k ls :=
 ⟨h.len, fun i l l' x h1 h2 h3 => ⟨(h.is i l l' x h1 h2 h3).1, by
  obtain ⟨z, hz, h4⟩ := (h.is i l l' x h1 h2 h3).2
  exact ⟨z, hz, h4.imp (fun h => ⟨h.1, h.2.extT hE hB ht⟩) id⟩⟩⟩
theorem PdsOk.extT {w w' : World} {N b t k : Nat} {cs : Array Value} {S : Sp} {qs : List Pd} (h : PdsOk w N S k qs) (hE : Ext [b] w w') (hB : Blk w b t cs) (ht : 61 ≠ t) : PdsOk w' N S k qs :=
 ⟨h.len, fun i p q h1 h2 => by
  obtain ⟨e1, e2, g, e3, e4, e5, e6⟩ := h.is i p q h1 h2
  exact ⟨e1, e2, g, e3, e4, e5, e6.ext hE (by simpa using OwnR.ne_type e6 hB ht)⟩⟩
theorem LentOk.extT {w w' : World} {N b t : Nat} {cs : Array Value} {S : Sp} {xs : List Ex} {gl gn gp : Nat} {ls : List Lx} {qs : List Pd} (h : LentOk w N S xs gl gn gp ls qs) (hE : Ext [b] w w') (hB : Blk w b t cs) (h1 : 98 ≠ t) (h2 : 61 ≠ t) (h3 : 100 ≠ t) (h4 : 9 ≠ t) (h5 : 73 ≠ t) : LentOk w' N S xs gl gn gp ls qs :=
 ⟨h.lx.extT hE hB h1, h.ps.extT hE hB h2, h.ol.ext hE (by simpa using OwnR.ne_type h.ol hB h3), h.on.ext hE (by simpa using OwnR.ne_type h.on hB h4), h.op.ext hE (by simpa using OwnR.ne_type h.op hB h5), h.new⟩
theorem LxsOk.pat {w : World} {N : Nat} {S : Sp} {xs : List Ex} {ls : List Lx} (h : LxsOk w N S xs S.lx.length ls) (hX : PatOk w S xs) {S' : Sp} (hS' : S'.lx = ls) : ∃ xs', PatOk w S' xs' := by
 have hl := h.len
 have hxl := hX.len
 have key : ∀ n, n ≤ ls.length → ∃ ys : List Ex, ys.length = n ∧ ∀ (i : Nat) (l' : Lx) (y : Ex), ls[i]? = some l' → ys[i]? = some y → l'.cells = [.string l'.nm, .bool l'.tr, I6 y.kd, I6 y.fr, I6 y.to, I6 y.mi, I6 y.ma, y.ls] ∧ y.Ok w := by
  intro n
  induction n with
  | zero => intro _; exact ⟨[], rfl, fun i l' y _ h => by simp at h⟩
  | succ n ih =>
   intro hn
   obtain ⟨ys, h1, h2⟩ := ih (by omega)
   obtain ⟨l', hl'⟩ : ∃ l', ls[n]? = some l' := ⟨_, List.getElem?_eq_getElem (by omega)⟩
   obtain ⟨l, hl0⟩ : ∃ l, S.lx[n]? = some l := ⟨_, List.getElem?_eq_getElem (by omega)⟩
   obtain ⟨x, hx⟩ : ∃ x, xs[n]? = some x := ⟨_, List.getElem?_eq_getElem (by omega)⟩
   obtain ⟨h3, h4⟩ := h.is n l l' x hl0 hl' hx
   obtain ⟨y, h5, h6⟩ := h4.ok (hX.ok x (List.mem_of_getElem? hx))
   refine ⟨ys ++ [y], by simp [h1], fun i a b ha hb => ?_⟩
   rcases Nat.lt_or_ge i n with hi | hi
   ·rw [List.getElem?_append_left (by omega)] at hb; exact h2 i a b ha hb
   ·have hi2 := (List.getElem?_eq_some_iff.1 hb).1
    simp only [List.length_append, List.length_singleton] at hi2
    obtain rfl : i = n := by omega
    rw [List.getElem?_append_right (by omega)] at hb
    simp only [h1, Nat.sub_self, List.getElem?_cons_zero, Option.some.injEq] at hb
    subst hb
    rw [hl'] at ha; cases ha
    refine ⟨?_, h5⟩
    have h7 : [I6 y.kd, I6 y.fr, I6 y.to, I6 y.mi, I6 y.ma, y.ls] = [I6 x.kd, I6 x.fr, I6 x.to, I6 x.mi, I6 x.ma, l'.ls] := h6
    simp only [List.cons.injEq, and_true] at h7
    obtain ⟨a1, a2, a3, a4, a5, a6⟩ := h7
    have h8 : [Value.string l'.nm, .bool l'.tr, I6 l'.kd, I6 l'.fr, I6 l'.to, I6 l'.mi, I6 l'.ma, l'.ls] = [.string l.nm, .bool l.tr, I6 x.kd, I6 x.fr, I6 x.to, I6 x.mi, I6 x.ma, l'.ls] := h3
    show [Value.string l'.nm, .bool l'.tr, I6 l'.kd, I6 l'.fr, I6 l'.to, I6 l'.mi, I6 l'.ma, l'.ls] = _
    rw [a1, a2, a3, a4, a5, a6]
    simp only [List.cons.injEq, and_true] at h8 ⊢
    obtain ⟨_, _, b3, b4, b5, b6, b7⟩ := h8
    exact ⟨trivial, trivial, b3, b4, b5, b6, b7⟩
 obtain ⟨ys, h1, h2⟩ := key ls.length (Nat.le_refl _)
 refine ⟨ys, by rw [hS']; exact h1, fun i l x hl hx => (h2 i l x (by rw [← hS']; exact hl) hx).1, fun y hy => ?_⟩
 obtain ⟨i, hi⟩ := List.getElem?_of_mem hy
 obtain ⟨l', hl'⟩ : ∃ l', ls[i]? = some l' := ⟨_, List.getElem?_eq_getElem (by have := (List.getElem?_eq_some_iff.1 hi).1; omega)⟩
 exact (h2 i l' y hl' hi).2
def cutP (qs : List Pd) : List Pd := match qs with
 | [] => []
 | q :: qt => ⟨q.l, q.ra, q.rc, []⟩ :: qt
theorem cutP_len (qs : List Pd) : (cutP qs).length = qs.length := by cases qs <;> rfl
theorem pcells_cut {qs : List Pd} {q : Pd} (h : qs[0]? = some q) (m : List Value) : (pcells qs ++ m).set 1 (.slice q.ra 0 q.rc) = pcells (cutP qs) ++ m := by
 cases qs with
 | nil => simp at h
 | cons a qt =>
  simp only [List.getElem?_cons_zero, Option.some.injEq] at h
  subst h
  rfl
theorem pc_one {qs : List Pd} {q : Pd} (h : qs[0]? = some q) (m : List Value) : (pcells qs ++ m)[1]? = some q.rv := by
 cases qs with
 | nil => simp at h
 | cons a qt =>
  simp only [List.getElem?_cons_zero, Option.some.injEq] at h
  subst h
  rfl
theorem sl_cut {q : Pd} {g : Nat} {w0 w : World} (h : RdV w0 2 q.rv q.r.length (ycells q.r)) (ha : q.ra = some ⟨g, 0, none⟩) : (vS (Instr.sliceAt 71 q.rv none (some (I6 0)) none)).run Tryd.prog w = .ok (.value (.slice q.ra 0 q.rc)) w := by
 have h1 := sl_z (P := Tryd.prog) (T := 71) (e := 61) (l := 0) (k := 0) (w := w) none (some (I6 0)) h (by kernel_rfl) (by kernel_rfl) (.inl ⟨rfl, rfl⟩) (.inr ⟨_, rfl⟩) (Nat.le_refl _) (Nat.zero_le _)
 have e : rsz 2 q.rv 0 0 (capOf q.rv) = .slice q.ra 0 q.rc := by
  unfold Pd.rv
  rw [ha]
  by_cases hc : q.rc = 0
  ·simp [rsz, capOf, hc]
  ·simp [rsz, capOf, hc, Addr.add]
 rw [e] at h1
 exact h1
theorem LentOk.cut {w w' w0 : World} {N : Nat} {S : Sp} {xs : List Ex} {gl gn gp : Nat} {ls : List Lx} {qs : List Pd} (h : LentOk w N S xs gl gn gp ls qs) (hG : SpOk w0 S) (hX : PatOk w' S xs) (hE : Ext [gp] w w') (hO : OwnR w' 73 2 gp (S.ps.length + 1) (S.ps.length + 1) (pcells (cutP qs) ++ markP)) :
  SpOk w' (lentS S gl gn gp ls (cutP qs)) ∧ ∃ xs', PatOk w' (lentS S gl gn gp ls (cutP qs)) xs' := by
 obtain ⟨cs, hB, _⟩ := h.op.row
 have h1 := h.lx.len
 have h2 := h.ps.len
 have hps := h.ps.extT hE hB (by decide)
 have hlx := h.lx.extT hE hB (by decide)
 refine ⟨⟨?_, ?_, ?_, fun q hq => ?_, ?_, hG.nmax, ?_, fun q hq => ?_⟩, hlx.pat hX rfl⟩
 ·show RdV w' 8 (.slice (some ⟨gl, 0, none⟩) ls.length (S.lx.length + 1)) ls.length (lcells ls)
  exact own_head (h.ol.ext hE (by simpa using OwnR.ne_type h.ol hB (by decide))) (lcells_len ls) (by omega)
 ·show RdV w' 1 (.slice (some ⟨gn, 0, none⟩) S.ns.length (S.ns.length + 1)) S.ns.length (ncells S.ns)
  exact own_head (h.on.ext hE (by simpa using OwnR.ne_type h.on hB (by decide))) (by rw [ncells_len, Nat.mul_one]) (by omega)
 ·show RdV w' 2 (.slice (some ⟨gp, 0, none⟩) (cutP qs).length (S.ps.length + 1)) (cutP qs).length (pcells (cutP qs))
  exact own_head hO (pcells_len _) (by rw [cutP_len]; omega)
 ·have hq : q ∈ cutP qs := hq
  have key : q ∈ qs ∨ q.r = [] := by
   cases qs with
   | nil => cases hq
   | cons a qt =>
    rcases List.mem_cons.1 hq with rfl | hq
    ·exact .inr rfl
    ·exact .inl (List.mem_cons_of_mem _ hq)
  rcases key with hq | hq
  ·obtain ⟨i, hi⟩ := List.getElem?_of_mem hq
   obtain ⟨p, hpi⟩ : ∃ p, S.ps[i]? = some p := ⟨_, List.getElem?_eq_getElem (by have := (List.getElem?_eq_some_iff.1 hi).1; omega)⟩
   obtain ⟨e1, e2, g, e3, e4, e5, e6⟩ := hps.is i p q hpi hi
   show RdV w' 2 (.slice q.ra q.r.length q.rc) q.r.length (ycells q.r)
   rw [e2, e3, e4]
   exact own_head e6 (ycells_len p.r) (by omega)
  ·show RdV w' 2 (.slice q.ra q.r.length q.rc) q.r.length (ycells q.r)
   rw [hq]
   exact .inl ⟨_, _, rfl, rfl, rfl⟩
 ·show ls.length ≤ _
  have := hG.lmax; omega
 ·show (cutP qs).length ≤ _
  have := hG.pmax; rw [cutP_len]; omega
 ·have hq : q ∈ cutP qs := hq
  have key : q ∈ qs ∨ q.r = [] := by
   cases qs with
   | nil => cases hq
   | cons a qt =>
    rcases List.mem_cons.1 hq with rfl | hq
    ·exact .inr rfl
    ·exact .inl (List.mem_cons_of_mem _ hq)
  rcases key with hq | hq
  ·obtain ⟨i, hi⟩ := List.getElem?_of_mem hq
   obtain ⟨p, hpi⟩ : ∃ p, S.ps[i]? = some p := ⟨_, List.getElem?_eq_getElem (by have := (List.getElem?_eq_some_iff.1 hi).1; omega)⟩
   obtain ⟨e1, e2, _⟩ := hps.is i p q hpi hi
   rw [e2]; exact hG.rmax p (List.mem_of_getElem? hpi)
  ·rw [hq]; simp
def lca (S : Sp) (gl gn gp : Nat) : Array Value := #[.slice (some ⟨gl, 0, none⟩) S.lx.length (S.lx.length + 1), .slice (some ⟨gn, 0, none⟩) S.ns.length (S.ns.length + 1), I6 S.st, .slice (some ⟨gp, 0, none⟩) S.ps.length (S.ps.length + 1)]
theorem LentOk.ca3 {w : World} {N : Nat} {S : Sp} {xs : List Ex} {gl gn gp : Nat} {ls : List Lx} {qs : List Pd} (h : LentOk w N S xs gl gn gp ls qs) : (lentS S gl gn gp ls (cutP qs)).ca = lca S gl gn gp := by
 show (#[Value.slice _ ls.length _, _, _, Value.slice _ (cutP qs).length _] : Array Value) = _
 rw [cutP_len, h.lx.len, h.ps.len]; rfl
theorem Lend_b {w0 w : World} {S : Sp} (hG : SpOk w0 S) (hb : Ext [] w0 w) {xs : List Ex} (hX : PatOk w0 S xs) :
  Calls Tryd.prog 13 #[.agg S.ca] w fun e w' => ∃ gl gn gp ls qs, e = .returned (.agg (lca S gl gn gp)) ∧ LentOk w' w.heap.size S xs gl gn gp ls qs ∧ Ext [] w w' := by
 refine (Lend_any hG hb hX).mono ?_
 rintro e w' ⟨gl, gn, gp, ls, qs, rfl, hL, hE⟩
 have hc := hL.ca
 exact ⟨gl, gn, gp, ls, qs, by unfold lca; rw [← hc], hL, hE⟩
theorem Lend_u {w0 w : World} {S : Sp} {cs : Array Value} (hc : S.ca = cs) (hG : SpOk w0 S) (hb : Ext [] w0 w) (hX : ∃ xs, PatOk w0 S xs) :
  Calls Tryd.prog 13 #[.agg cs] w fun e w' => ∃ S2 : Sp, e = .returned (.agg #[S2.lv, S2.nv, I6 S2.st, S2.pv]) ∧ (SpOk w' S2 ∧ Same S S2) ∧ Ext [] w w' := by
 rw [← hc]
 obtain ⟨xs, hX⟩ := hX
 refine (Lend_any hG hb hX).mono ?_
 rintro e w' ⟨gl, gn, gp, ls, qs, rfl, hL, hE⟩
 exact ⟨lentS S gl gn gp ls qs, rfl, ⟨hL.sp hG, hL.same hX⟩, hE⟩
theorem told_x {w0 w : World} {S : Sp} {cs : Array Value} (hc : S.ca = cs) (hG : SpOk w0 S) (hb : Ext [] w0 w) (hT : Tab w0) : Calls Tryd.prog 27 #[.agg cs] w fun e w' => ∃ v, e = .returned v ∧ Ext [] w w' := by
 rw [← hc]
 refine (told_any hG hb hT).mono ?_
 rintro e w' ⟨z, _, ⟨_, h⟩ | ⟨_, T, h, _⟩, hE⟩
 ·exact ⟨_, h, hE⟩
 ·exact ⟨_, h, hE⟩
theorem sameTold_S {S S' : Sp} {N N' : Nat} {w : World} {T T' : Td} (hG : ∀ x, x ∈ S.g ↔ x ∈ S'.g) (hn : S.ns.length = S'.ns.length) (hl : S.nl = S'.nl) (hs : S.st = S'.st) (h : TdOk S N w T) (h' : TdOk S' N' w T') (hnm : S.ns.length ≤ 1048576) :
  Calls Tryd.prog 32 #[.agg (T.cells S), .agg (T'.cells S')] w fun e w' => e = .returned (.bool true) ∧ Ext [] w w' := by
 obtain ⟨e1, e2, e3, e4, e5, e6⟩ := h.same hG hn hl hs h'
 obtain ⟨m1, m2, m3⟩ := h.max
 have hyn := h.ly.len
 have hy : T.yn ≤ 1048576 := by
  obtain ⟨k, x, ⟨vs, hv, h1 | h1⟩, _⟩ := h.isY
  ·have := h1.2.2.2.2.1; omega
  ·have := h1.2.2.2.1; omega
 have r2 := h'.re.v.rd
 have f2 := h'.lf.rdl (by rw [← e2]; exact m1)
 have w2 := h'.lw.rdl (by rw [← e3]; exact m2)
 have y2 := h'.ly.rdl (by rw [← e4]; exact m3)
 rw [← e1, ← hn] at r2
 rw [← e2, ← hn] at f2
 rw [← e3, ← hn] at w2
 rw [← e4, ← e5] at y2
 have := sameTold_eq T.full h.re.v.rd r2 (h.lf.rdl m1) f2 (h.lw.rdl m2) w2 (h.ly.rdl m3) y2 hnm hy
 unfold Td.cells Sn
 rw [← e6, ← e5, ← hn]
 exact this
def Tq.cells (q : Tq) : Array Value := #[.slice q.a0 q.n0 q.k0, .slice q.a1 q.n1 q.k1, .slice q.a2 q.n2 q.k2, .slice q.a3 q.n3 q.k3, .bool q.fu]
def Tb (S : Sp) (N : Nat) (w : World) (z : Int × Int) (q : Tq) : Prop :=
 (z.1 ≠ 0 ∧ q.cells = (#[.slice none 0 0, .slice none 0 0, .slice none 0 0, .slice none 0 0, .bool false] : Array Value)) ∨ (z.1 = 0 ∧ ∃ T : Td, q.cells = T.cells S ∧ TdOk S N w T)
theorem Tb.ext0 {S : Sp} {N : Nat} {w w' : World} {z : Int × Int} {q : Tq} (h : Tb S N w z q) (hE : Ext [] w w') : Tb S N w' z q :=
 h.imp id fun ⟨h1, T, h2, h3⟩ => ⟨h1, T, h2, h3.ext0 hE⟩
theorem Tb.extT {S : Sp} {N : Nat} {w w' : World} {z : Int × Int} {q : Tq} (h : Tb S N w z q) {b t : Nat} {cs : Array Value} (hE : Ext [b] w w') (hB : Blk w b t cs) (h1 : 51 ≠ t) (h2 : 3 ≠ t) (h3 : 4 ≠ t) : Tb S N w' z q :=
 h.imp id fun ⟨e1, T, e2, e3⟩ => ⟨e1, T, e2, e3.extT hE hB h1 h2 h3⟩
theorem told_u {w0 w : World} {S : Sp} {cs : Array Value} (hc : S.ca = cs) (hG : SpOk w0 S) (hb : Ext [] w0 w) (hT : Tab w0) : Calls Tryd.prog 27 #[.agg cs] w fun e w' => ∃ (z : Int × Int) (q : Tq), e = .returned (.tuple #[.agg q.cells, .bool (decide (z.1 = 0)), .bool true]) ∧ ChkR S z ∧ Tb S w.heap.size w' z q ∧ Ext [] w w' := by
 rw [← hc]
 refine (told_any hG hb hT).mono ?_
 rintro e w' ⟨z, hz, ⟨h1, h⟩ | ⟨h1, T, h, hT⟩, hE⟩
 ·exact ⟨z, ⟨none, 0, 0, none, 0, 0, none, 0, 0, none, 0, 0, false⟩, by rw [h, decide_eq_false h1]; rfl, hz, .inl ⟨h1, rfl⟩, hE⟩
 ·exact ⟨z, ⟨some ⟨T.eg, 0, none⟩, S.ns.length, S.ns.length, T.fb, S.ns.length, T.fc, T.wb, S.ns.length, T.wc, T.yb, T.yn, T.yc, T.full⟩, by rw [h, decide_eq_true h1]; rfl, hz, .inr ⟨h1, T, rfl, hT⟩, hE⟩
theorem told_uz {w0 w : World} {S : Sp} {cs : Array Value} {z : Int × Int} (hz : ChkR S z) (hc : S.ca = cs) (hG : SpOk w0 S) (hb : Ext [] w0 w) (hT : Tab w0) : Calls Tryd.prog 27 #[.agg cs] w fun e w' => ∃ q : Tq, e = .returned (.tuple #[.agg q.cells, .bool (decide (z.1 = 0)), .bool true]) ∧ Tb S w.heap.size w' z q ∧ Ext [] w w' := by
 refine (told_u hc hG hb hT).mono ?_
 rintro e w' ⟨z', q, h1, h2, h3, hE⟩
 obtain rfl := h2.same hz
 exact ⟨q, h1, h3, hE⟩
theorem check_c {w0 w : World} {S : Sp} {cs : Array Value} (hc : S.ca = cs) (hG : SpOk w0 S) (hb : Ext [] w0 w) {z : Int × Int} (hz : ChkR S z) : Calls Tryd.prog 36 #[.agg cs] w fun e w' => e = .returned (.agg #[I6 z.1, I6 z.2, .string ⟨#[]⟩]) ∧ Ext [] w w' := by
 rw [← hc]
 refine (check_any hG hb).mono ?_
 rintro e w' ⟨z', rfl, h, hE⟩
 rw [h.same hz]; exact ⟨rfl, hE⟩
theorem sameTold_b {S S' : Sp} {N N' : Nat} {w : World} {z : Int × Int} {q r : Tq} (hs : Same S S') (h : Tb S N w z q) (h' : Tb S' N' w z r) (hnm : S.ns.length ≤ 1048576) :
  Calls Tryd.prog 32 #[.agg q.cells, .agg r.cells] w fun e w' => e = .returned (.bool true) ∧ Ext [] w w' := by
 rcases h with ⟨h0, h⟩ | ⟨h0, T, h, hT⟩
 ·rcases h' with ⟨_, h'⟩ | ⟨h1, _⟩
  ·rw [h, h']
   have hn : RdV w 1 (.slice none 0 0) 0 [] := .inl ⟨_, _, rfl, rfl, rfl⟩
   have hl : RdL w (.slice none 0 0) 0 [] := ⟨⟨[], hn, rfl, fun k l h => by simp at h⟩, rfl, fun l h => by cases h⟩
   exact sameTold_eq false (es := []) hn hn hl hl hl hl hl hl (Nat.zero_le _) (Nat.zero_le _)
  ·exact absurd h1 h0
 ·rcases h' with ⟨h1, _⟩ | ⟨_, T', h', hT'⟩
  ·exact absurd h0 h1
  ·rw [h, h']
   exact sameTold_S (fun x => by rw [hs.g]) (by rw [hs.ns]) hs.nl.symm hs.st.symm hT hT' hnm
end Go.Proofs.YtkkpghlcmcaoiaaDoor
