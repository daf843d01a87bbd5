import Derived.Test.YtkkpghlcmcaoiaaDoorVf
import Derived.Laws.OwnMore
import Derived.Laws.MakeOwn
import Derived.Laws.Small
namespace Go.Vc
open Go
structure OwnR (w : World) (e : TypeId) (size g cap n : Nat) (xs : List Value) : Prop where
 row : ∃ cur, Blk w g e cur ∧ cur.size = cap * size ∧ cur.toList.take (n * size) = xs
 le : n ≤ cap
 max : cap ≤ maxLen
 len : xs.length = n * size
def OwnV (w : World) (e : TypeId) (size : Nat) (v : Value) (n : Nat) (xs : List Value) : Prop :=
 (v = .slice none 0 0 ∧ n = 0 ∧ xs = []) ∨ ∃ g cap, v = .slice (some ⟨g, 0, none⟩) n cap ∧ OwnR w e size g cap n xs
def ob : Value → List Nat
 | .slice (some a) _ _ => [a.block]
 | _ => []
section
variable {w w' : World} {e : TypeId} {size g cap n : Nat} {xs : List Value} {M : List Nat}
theorem OwnR.lt (h : OwnR w e size g cap n xs) : g < w.heap.size := by obtain ⟨⟨cur, hb, _⟩, _⟩ := h; exact hb.lt
theorem OwnR.ext (h : OwnR w e size g cap n xs) (hE : Ext M w w') (hM : g ∉ M) : OwnR w' e size g cap n xs :=
 ⟨h.row.elim fun cur ⟨hb, h2⟩ => ⟨cur, hb.ext hE hM, h2⟩, h.le, h.max, h.len⟩
theorem OwnR.at' (he : w' = w) (h : OwnR w e size g cap n xs) : OwnR w' e size g cap n xs := he ▸ h
theorem OwnR.drew (h : OwnR w e size g cap n xs) : OwnR w.drew e size g cap n xs := ⟨h.row, h.le, h.max, h.len⟩
theorem OwnR.alloc (h : OwnR w e size g cap n xs) (o : Obj) : OwnR (w.alloc o) e size g cap n xs :=
 ⟨h.row.elim fun cur ⟨hb, h2⟩ => ⟨cur, hb.alloc o, h2⟩, h.le, h.max, h.len⟩
theorem OwnR.updNe (h : OwnR w e size g cap n xs) {b : Nat} (hne : b ≠ g) (T : TypeId) (cs : Array Value) : OwnR (upd w b T cs) e size g cap n xs :=
 ⟨h.row.elim fun cur ⟨hb, h2⟩ => ⟨cur, hb.updNe hne T cs, h2⟩, h.le, h.max, h.len⟩
theorem OwnR.cellAt (h : OwnR w e size g cap n xs) (j : Nat) {v : Value} (hj : xs[j]? = some v) : w.cell? ⟨g, j, none⟩ = some v := by
 obtain ⟨⟨cur, hb, hs, ht⟩, h1, h2, h3⟩ := h
 have hlt : j < xs.length := (List.getElem?_eq_some_iff.1 hj).1
 refine hb.cell j ?_
 rw [← ht, List.getElem?_take] at hj
 split at hj
 ·simpa using hj
 ·cases hj
theorem OwnR.take (h : OwnR w e size g cap n xs) {k : Nat} (hk : k ≤ n) : OwnR w e size g cap k (xs.take (k * size)) := by
 obtain ⟨⟨cur, hb, hs, ht⟩, h1, h2, h3⟩ := h
 have hm : k * size ≤ n * size := Nat.mul_le_mul_right _ hk
 refine ⟨⟨cur, hb, hs, ?_⟩, by omega, h2, ?_⟩
 ·rw [← ht, List.take_take, Nat.min_eq_left hm]
 ·rw [List.length_take, h3, Nat.min_eq_left hm]
theorem OwnR.of_blk {cs : Array Value} (h : Blk w g e cs) (hs : cs.size = n * size) (hm : n ≤ maxLen) : OwnR w e size g n n cs.toList :=
 ⟨⟨cs, h, hs, by rw [← hs]; exact List.take_of_length_le (by simp)⟩, Nat.le_refl _, hm, by rw [← hs]; simp⟩
theorem OwnR.ne_type (h : OwnR w e size g cap n xs) {b : Nat} {T : TypeId} {cs : Array Value} (h' : Blk w b T cs) (hT : e ≠ T) : g ≠ b := by
 obtain ⟨⟨cur, hb, _⟩, _⟩ := h; exact hb.ne_type h' hT
theorem OwnR.same (h : OwnR w e size g cap n xs) {cs : Array Value} {T : TypeId} (h' : Blk w g T cs) : e = T := by
 obtain ⟨⟨cur, hb, _⟩, _⟩ := h; exact (hb.same h').1
theorem OwnV.nil (w : World) (e : TypeId) (size : Nat) : OwnV w e size (.slice none 0 0) 0 [] := .inl ⟨rfl, rfl, rfl⟩
theorem OwnR.v (h : OwnR w e size g cap n xs) : OwnV w e size (.slice (some ⟨g, 0, none⟩) n cap) n xs := .inr ⟨g, cap, rfl, h⟩
theorem OwnV.ext {v : Value} (h : OwnV w e size v n xs) (hE : Ext M w w') (hM : ∀ b ∈ ob v, b ∉ M) : OwnV w' e size v n xs := by
 rcases h with h | ⟨g, cap, rfl, h⟩
 ·exact .inl h
 ·exact .inr ⟨g, cap, rfl, h.ext hE (hM g (by simp [ob]))⟩
theorem OwnV.lie {v : Value} (h : OwnV w e size v n xs) : Lie w (ob v) := by
 rcases h with ⟨rfl, _⟩ | ⟨g, cap, rfl, h⟩
 ·intro b hb; have hb : b ∈ ([] : List Nat) := hb; cases hb
 ·intro b hb; simp [ob] at hb; subst hb; exact h.lt
theorem OwnV.len {v : Value} (h : OwnV w e size v n xs) : xs.length = n * size := by
 rcases h with ⟨rfl, rfl, rfl⟩ | ⟨g, cap, rfl, h⟩
 ·simp
 ·exact h.len
end
def infoOf (P : Program) (e : TypeId) : Option (Nat × Nat × Array Value) := match P.info? e with
 | some i => match i.zero with
  | some z => some (i.size, i.bytes, z.cells)
  | none => none
 | none => none
theorem infoOf_spec {P : Program} {e : TypeId} {size bytes : Nat} {z : Array Value} (h : infoOf P e = some (size, bytes, z)) :
  ∃ i zv, P.info? e = some i ∧ i.zero = some zv ∧ i.size = size ∧ i.bytes = bytes ∧ zv.cells = z := by
 unfold infoOf at h
 split at h
 ·rename_i i hi
  split at h
  ·rename_i zv hz
   simp only [Option.some.injEq, Prod.mk.injEq] at h
   exact ⟨i, zv, hi, hz, h.1, h.2.1, h.2.2⟩
  ·cases h
 ·cases h
theorem oneAll_spec : ∀ {vs : List Value}, oneAll vs = true → ∀ u ∈ vs, u.oneCell' = true
 | [], _, u, hu => by cases hu
 | v :: vs, h, u, hu => by
  simp only [oneAll] at h
  split at h
  ·rename_i hv
   rcases List.mem_cons.1 hu with rfl | hu
   ·exact hv
   ·exact oneAll_spec h u hu
  ·cases h
theorem addr_add (b off j : Nat) : (⟨b, off, none⟩ : Addr).add j = ⟨b, off + j, none⟩ := by
 unfold Addr.add; split
 ·rename_i h0; rw [h0]; rfl
 ·rfl
theorem append_any {P : Program} {w : World} {t ty e : TypeId} {size bytes n b off k c : Nat} {z : Array Value} {v : Value} {xs news : List Value} (ht : P.underlying t = some (.slice e)) (hinf : infoOf P e = some (size, bytes, z))
  (hzs : z.size = size) (hsz : 0 < size) (hown : OwnV w e size v n xs) (hl : news.length = k * size) (hnews : ∀ j u, news[j]? = some u → w.cell? ⟨b, off + j, none⟩ = some u) (h1 : oneAll news = true)
  (hk : 0 < k) (hmax : n + k ≤ maxLen) (hbytes : (n + k) * bytes ≤ 140737488355328) :
  ∃ g cap w', (Builtin.append_ #[t, t] ty #[v, .slice (some ⟨b, off, none⟩) k c]).run P w = .ok (.slice (some ⟨g, 0, none⟩) (n + k) cap) w' ∧ OwnR w' e size g cap (n + k) (xs ++ news) ∧ Ext (ob v) w w' ∧ Fresh w.heap.size (ob v) [g] := by
 obtain ⟨i, zv, hi, hz, rfl, rfl, rfl⟩ := infoOf_spec hinf
 have h63 : n + k ≤ 9223372036854775807 := by simp only [maxLen] at hmax; omega
 have hnews' : ∀ j u, news[j]? = some u → w.cell? ((⟨b, off, none⟩ : Addr).add j) = some u := fun j u hu => by rw [addr_add]; exact hnews j u hu
 have hlen : (xs ++ news).length = (n + k) * i.size := by rw [List.length_append, hown.len, hl, Nat.add_mul]
 have grown : ∀ (old : Nat), OwnR (w.drew.alloc (.cells (xs.toArray ++ news.toArray ++ Builtin.zeroCells zv.cells (grownCap w (n + k) old e - (n + k))) e)) e i.size w.heap.size (grownCap w (n + k) old e) (n + k) (xs ++ news) ∧
   Ext (ob v) w (w.drew.alloc (.cells (xs.toArray ++ news.toArray ++ Builtin.zeroCells zv.cells (grownCap w (n + k) old e - (n + k))) e)) := fun old => by
  have hge := grownCap_ge w (n + k) old e
  have hcm : grownCap w (n + k) old e ≤ maxLen := grownCap_le_maxLen w (n + k) old e hmax
  refine ⟨⟨⟨_, Blk.new w.drew _ _, ?_, ?_⟩, hge, hcm, hlen⟩, (Ext.refl _ w).drew.alloc _⟩
  ·have : xs.length = n * i.size := hown.len
   simp only [Array.size_append, List.size_toArray, size_zeroCells, hzs, this, hl, ← Nat.add_mul]
   congr 1
   omega
  ·simp only [Array.toList_append, List.append_assoc]
   rw [← List.append_assoc, ← hlen]
   exact List.take_left
 rcases hown with ⟨rfl, rfl, rfl⟩ | ⟨g, cap, rfl, hO⟩
 ·have hr := run_append_nil (P := P) w t ty e i zv ht hi hz ⟨b, off, none⟩ k c news hl hnews' hk (by omega) (by have hb := hbytes; simp only [Nat.zero_add] at hb; omega)
  obtain ⟨h2, h3⟩ := grown 0
  simp only [Nat.zero_add, List.nil_append, Array.empty_append] at h2 h3 ⊢
  exact ⟨_, _, _, hr, h2, h3, fun x hx => .inr (by simp at hx; omega)⟩
 ·obtain ⟨⟨cur, hg, hcs, htake⟩, hnc, hcm, hxl⟩ := hO
  by_cases hroom : n + k ≤ cap
  ·have hfit : n * i.size + news.length ≤ cur.size := by rw [hl, hcs, ← Nat.add_mul]; exact Nat.mul_le_mul_right _ hroom
   have hr := run_append_room (P := P) w t ty e i ht hi g n cap cur hg ⟨b, off, none⟩ k c news hl hnews' (oneAll_spec h1) hroom hfit
   refine ⟨_, _, _, hr, ⟨⟨_, setRow_heap w g cur _ e _ hg, ?_, ?_⟩, hroom, hcm, hlen⟩, ⟨rfl, rfl, rfl, by simp, fun j _ hj => setRow_other w g j _ (fun e => hj (by simp [ob, e]))⟩, fun x hx => .inl (by simpa [ob] using hx)⟩
   ·simp only [List.size_toArray, List.length_append, List.length_take, List.length_drop, Array.length_toList]
    omega
   ·rw [htake, ← hlen]
    exact List.take_left
  ·have hO : OwnR w e i.size g cap n xs := ⟨⟨cur, hg, hcs, htake⟩, hnc, hcm, hxl⟩
   have holds : ∀ j u, xs[j]? = some u → w.cell? ((⟨g, 0, none⟩ : Addr).add j) = some u := fun j u hu => by rw [addr_add, Nat.zero_add]; exact hO.cellAt j hu
   have hr := run_append_grow (P := P) w t ty e i zv ht hi hz ⟨g, 0, none⟩ n cap xs hxl holds ⟨b, off, none⟩ k c news hl hnews' (by omega) (by omega) (growslice_fits (by omega) hbytes)
   obtain ⟨h2, h3⟩ := grown cap
   exact ⟨_, _, _, hr, h2, h3, fun x hx => .inr (by simp at hx; omega)⟩
theorem append_none {P : Program} {w : World} {t ty e : TypeId} {size bytes n c : Nat} {z : Array Value} {v : Value} {xs : List Value} {a : Option Addr} (ht : P.underlying t = some (.slice e)) (hinf : infoOf P e = some (size, bytes, z)) (hown : OwnV w e size v n xs) :
  (Builtin.append_ #[t, t] ty #[v, .slice a 0 c]).run P w = .ok v w := by
 obtain ⟨i, zv, hi, hz, rfl, rfl, rfl⟩ := infoOf_spec hinf
 rcases hown with ⟨rfl, rfl, rfl⟩ | ⟨g, cap, rfl, hO⟩
 ·cases a <;> simp [Builtin.append_, run_underlying ht, sizeOf, typeInfo, hi, Builtin.lenOf, Builtin.firstCells, loadCells, loadCellsFrom]
 ·have := hO.le
  cases a <;> simp [Builtin.append_, run_underlying ht, sizeOf, typeInfo, hi, Builtin.lenOf, Builtin.firstCells, loadCells, loadCellsFrom, storeCells, this]
/-! ### a new row, whatever operation lays it -/
def newAt (P : Program) (r : Nat) : Sem Next → Option (Array Value × TypeId × Value)
 | .program k => newAt P r (k P)
 | .new (.cells cs T (0, 0)) k => match closedV P (k r) with
  | some v => some (cs, T, v)
  | none => none
 | _ => none
theorem newAt_run {P : Program} {w : World} {s : Sem Next} {cs : Array Value} {T : TypeId} {v : Value} (h : newAt P w.heap.size s = some (cs, T, v)) : s.run P w = .ok (.value v) (w.alloc (.cells cs T)) := by
 induction s with
 | program k ih => simp only [newAt] at h; simp only [Sem.run]; exact ih P h
 | new o k ih =>
  unfold newAt at h
  split at h
  ·rename_i heq; cases heq
  ·rename_i cs' T' k' heq
   cases heq
   split at h
   ·rename_i u hu
    simp only [Option.some.injEq, Prod.mk.injEq] at h
    obtain ⟨rfl, rfl, rfl⟩ := h
    have := closedV_run hu (w.alloc (.cells cs' T'))
    exact this
   ·cases h
  ·cases h
 | _ => simp [newAt] at h
def newOf (P : Program) (ops : Array Oper) (n : Nat) (m : Fm) (i r : Nat) : Option (Array Value × TypeId × Value × Option Nat) := match effOf ops n m i with
 | some o => match newAt P r (execOp (fenv m) o) with
  | some (cs, T, v) => some (cs, T, v, o.dst)
  | none => none
 | none => none
section
variable {F : Fence} {P : Program} {ops : Array Oper} {Q : Exit → Act → World → Prop} {a : Act} {w : World} {n : Nat} {ds : List Deferred} {m : Fm}
theorem upon_new {i nb : Nat} {cs : Array Value} {T : TypeId} {v : Value} {d : Option Nat} {Post : Value → World → Prop} (ho : newOf P ops n m i nb = some (cs, T, v, d)) (hnb : w.heap.size = nb)
  (hp : Post v (w.alloc (.cells cs T))) : UponAt P ops n m i w Post := by
 subst hnb
 unfold newOf at ho
 split at ho
 ·rename_i o he
  split at ho
  ·rename_i cs' T' v' hn
   simp only [Option.some.injEq, Prod.mk.injEq] at ho
   obtain ⟨rfl, rfl, rfl, rfl⟩ := ho
   exact ⟨o, he, .inl ⟨_, _, newAt_run hn, hp⟩⟩
  ·cases ho
 ·cases ho
theorem eff_new (hW : Wide F) {i r : Nat} {cs : Array Value} {T : TypeId} {v : Value} {d : Option Nat} (hS : St n ds m a) (ho : newOf P ops n m i w.heap.size = some (cs, T, v, d))
  (hk : ∀ a' w', w' = w.alloc (.cells cs T) → St n ds (fput m d v) a' → wpOpsIn F 0 P ops Q (List.range' (i + 1) r) a' w') : wpOpsIn F 0 P ops Q (List.range' i (r + 1)) a w := by
 unfold newOf at ho
 split at ho
 ·rename_i o he
  split at ho
  ·rename_i cs' T' v' hn
   simp only [Option.some.injEq, Prod.mk.injEq] at ho
   obtain ⟨rfl, rfl, rfl, rfl⟩ := ho
   obtain ⟨h1, h2, h3, h4⟩ := effOf_spec he
   rw [range'_succ]
   simp only [wpOpsIn, h1, wants_spec (a := a) hS h2, if_true]
   exact op_value hW hS h3 (newAt_run hn) (hk _ _ rfl (hS.put _ h4))
  ·cases ho
 ·cases ho
theorem eff_append2 (hW : Wide F) {i r : Nat} {d : Option Nat} {t ty e : TypeId} {size bytes len b off k c : Nat} {z : Array Value} {v : Value} {xs : List Value} (news : List Value) (hS : St n ds m a)
  (ho : runOf ops n m i = some (vS (Builtin.append_ #[t, t] ty #[v, .slice (some ⟨b, off, none⟩) k c]), d))
  (ht : P.underlying t = some (.slice e)) (hinf : infoOf P e = some (size, bytes, z)) (hzs : Nat.beq z.size size = true) (hsz : Nat.blt 0 size = true) (hown : OwnV w e size v len xs)
  (hl : news.length = k * size) (hnews : ∀ j u, news[j]? = some u → w.cell? ⟨b, off + j, none⟩ = some u) (h1 : oneAll news = true) (hk0 : 0 < k) (hmax : len + k ≤ 140737488355328) (hbm : (len + k) * bytes ≤ 140737488355328)
  (hk : ∀ g cap a' w', OwnR w' e size g cap (len + k) (xs ++ news) → Ext (ob v) w w' → Fresh w.heap.size (ob v) [g] → St n ds (fput m d (.slice (some ⟨g, 0, none⟩) (len + k) cap)) a' → wpOpsIn F 0 P ops Q (List.range' (i + 1) r) a' w') :
  wpOpsIn F 0 P ops Q (List.range' i (r + 1)) a w := by
 obtain ⟨g, cap, w', hrun, hO, hE, hF⟩ := append_any (P := P) (w := w) (ty := ty) (c := c) ht hinf (Nat.eq_of_beq_eq_true hzs) (by simpa [Nat.blt_eq] using hsz) hown hl hnews h1 hk0 (by simp only [maxLen]; omega) hbm
 exact eff_run hW hS ho (vS_run hrun) fun a' hS' => hk g cap a' w' hO hE hF hS'
end
theorem sl_h {P : Program} {w : World} {T E : TypeId} {size b off len cap h : Nat} {k : IntKind} {i : Int} (hT : closedD P (underlying T) = some (.slice E)) (hs : closedN P (sizeOf E) = some size)
  (hi : i = (h : Int)) (hle : h ≤ cap) : (vS (Instr.sliceAt T (.slice (some ⟨b, off, none⟩) len cap) none (some (.int k i)) none)).run P w = .ok (.value (.slice (some ⟨b, off, none⟩) h cap)) w := by
 subst hi
 refine vS_run ?_
 have h1 : (0 : Int) ≤ (h : Int) ∧ (h : Int) ≤ (cap : Int) := ⟨by omega, by omega⟩
 have hadd0 : (⟨b, off, none⟩ : Addr).add 0 = ⟨b, off, none⟩ := addr_add b off 0
 simp [Instr.sliceAt, Instr.slice, Instr.sliceBounds, Instr.sliceBound, asIntOf, closedD_run hT w, closedN_run hs w, hle, hadd0]
/-! ### a row that is owned, nil or not -/
def bof : Value → Nat
 | .slice (some a) _ _ => a.block
 | _ => 0
theorem OwnV.cellAt {w : World} {e : TypeId} {size n : Nat} {v : Value} {xs : List Value} (h : OwnV w e size v n xs) (j : Nat) {u : Value} (hj : xs[j]? = some u) : w.cell? ⟨bof v, j, none⟩ = some u := by
 rcases h with ⟨rfl, rfl, rfl⟩ | ⟨g, cap, rfl, h⟩
 ·simp at hj
 ·exact h.cellAt j hj
theorem ix_own {P : Program} {w w0 : World} {T e : TypeId} {size n j : Nat} {k : IntKind} {i : Int} {v : Value} {xs : List Value} (h : OwnV w0 e size v n xs) (hT : closedD P (underlying T) = some (.slice e)) (hs : closedN P (sizeOf e) = some size)
  (hi : i = (j : Int)) (hj : j < n) : (vS (Instr.indexAt T v (.int k i))).run P w = .ok (.value (.pointer (some ⟨bof v, 0 + j * size, none⟩))) w := by
 rcases h with ⟨rfl, rfl, rfl⟩ | ⟨g, cap, rfl, h⟩
 ·omega
 ·exact ix_slice hT hs hi hj
theorem run_len_own {P : Program} {w w0 : World} {T ty e : TypeId} {size n : Nat} {v : Value} {xs : List Value} (h : OwnV w0 e size v n xs) (hT : closedD P (underlying T) = some (.slice e)) :
  (vS (Builtin.len_ #[T] ty #[v])).run P w = .ok (.value (.int .i64 n)) w := by
 refine vS_run ?_
 rcases h with ⟨rfl, rfl, rfl⟩ | ⟨g, cap, rfl, h⟩
 ·simp [Builtin.len_, closedD_run hT w, goInt]
 ·simp [Builtin.len_, closedD_run hT w, goInt]
theorem bin_rem {P : Program} {w : World} {T : TypeId} {a b : Operand} {x y : Int} (hy : y ≠ 0) :
  (vS (do eqGuard .rem T a b (.int .i64 x) (.int .i64 y); binOp .rem T (.int .i64 x) (.int .i64 y))).run P w = .ok (.value (.int .i64 (x.tmod y))) w := by
 simp [vS, eqGuard, binOp, Op.intDiv, hy]
section
variable {w w' : World} {e : TypeId} {size n : Nat} {v : Value} {xs : List Value}
theorem OwnV.alloc (h : OwnV w e size v n xs) (o : Obj) : OwnV (w.alloc o) e size v n xs := h.ext ((Ext.refl [] w).alloc o) (by simp)
theorem OwnV.at' (he : w' = w) (h : OwnV w e size v n xs) : OwnV w' e size v n xs := he ▸ h
theorem OwnV.drew (h : OwnV w e size v n xs) : OwnV w.drew e size v n xs := h.ext ((Ext.refl [] w).drew) (by simp)
theorem OwnV.updNe (h : OwnV w e size v n xs) {b : Nat} (hne : ∀ x ∈ ob v, b ≠ x) (T : TypeId) (cs : Array Value) : OwnV (upd w b T cs) e size v n xs :=
 h.ext ((Ext.refl [b] w).updIn (.inl (by simp)) T cs) (fun x hx hm => by simp at hm; exact hne x hx hm.symm)
theorem OwnV.ne (h : OwnV w e size v n xs) {b : Nat} {T : TypeId} {cs : Array Value} (hB : Blk w b T cs) (hT : e ≠ T) : ∀ x ∈ ob v, b ≠ x := fun x hx hm => by
 rcases h with ⟨rfl, _⟩ | ⟨g, cap, rfl, h⟩
 ·have hx : x ∈ ([] : List Nat) := hx; cases hx
 ·have hx : x = g := by simpa [ob] using hx
  subst hx; subst hm
  exact hT (h.same hB)
theorem OwnV.notin (h : OwnV w e size v n xs) {b : Nat} {T : TypeId} {cs : Array Value} (hB : Blk w b T cs) (hT : e ≠ T) : b ∉ ob v := fun hm => h.ne hB hT b hm rfl
theorem OwnV.take {bs : Option Addr} {cap k : Nat} (h : OwnV w e size (.slice bs n cap) n xs) (hk : k ≤ n) : OwnV w e size (.slice bs k cap) k (xs.take (k * size)) := by
 rcases h with ⟨h1, h2, h3⟩ | ⟨g, cap', h1, h⟩
 ·simp only [Value.slice.injEq] at h1
  obtain ⟨rfl, rfl, rfl⟩ := h1
  obtain rfl : k = 0 := by omega
  exact .inl ⟨rfl, rfl, by simp⟩
 ·simp only [Value.slice.injEq, true_and] at h1
  obtain ⟨rfl, rfl⟩ := h1
  exact .inr ⟨g, _, rfl, h.take hk⟩
end
end Go.Vc
