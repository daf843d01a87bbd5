import Derived.Test.YtkkpghlcmcaoiaaDoorSt
import Derived.Test.YtkkpghlcmcaoiaaDoorVh
import Derived.Test.YtkkpghlcmcaoiaaDoorVw
namespace Go.Vc
open Go
theorem run_copyK {P : Program} (w : World) (dT sT ty elem : TypeId) (g dLen dCap : Nat) (a : Addr) (sLen sCap K : Nat) (cur : Array Value) (t : TypeId) (cs : List Value)
  (hu : P.underlying dT = some (.slice elem)) (hs : (P.info? elem).map (·.size) = some K)
  (hg : w.heap[g]? = some (.cells cur t (0, 0))) (hn : cs.length = Nat.min sLen dLen * K)
  (hsrc : ∀ j v, cs[j]? = some v → w.cell? (a.add j) = some v) (hfit : cs.length ≤ cur.size) (h1 : ∀ v ∈ cs, v.oneCell' = true) :
  (Builtin.copy_ #[dT, sT] ty #[.slice (some ⟨g, 0, none⟩) dLen dCap, .slice (some a) sLen sCap]).run P w =
   .ok (goInt (Nat.min sLen dLen)) (w.setRow g (cs ++ cur.toList.drop cs.length).toArray) := by
 have hl := run_loadCells_list (P := P) w a cs hsrc
 have hst := run_storeCells_at P g 0 t cs 0 cur w hg (by simpa using hfit) h1
 cases hq : P.info? elem with
 | none => simp [hq] at hs
 | some i =>
  have hi : i.size = K := by simpa [hq] using hs
  simp [Builtin.copy_, run_underlying hu, Builtin.lenOf, Builtin.firstCells, sizeOf, typeInfo, hq, hi, ← hn, hl] at hst ⊢
  simp [hst]
theorem run_copyK0 {P : Program} (w : World) (dT sT ty elem : TypeId) (g dLen dCap : Nat) (a : Option Addr) (sCap K : Nat) (hu : P.underlying dT = some (.slice elem)) (hs : (P.info? elem).map (·.size) = some K) :
  (Builtin.copy_ #[dT, sT] ty #[.slice (some ⟨g, 0, none⟩) dLen dCap, .slice a 0 sCap]).run P w = .ok (goInt 0) w := by
 cases hq : P.info? elem with
 | none => simp [hq] at hs
 | some i => cases a <;> simp [Builtin.copy_, run_underlying hu, Builtin.lenOf, Builtin.firstCells, sizeOf, typeInfo, hq, storeCells, loadCells, loadCellsFrom]
theorem copy_ownK {P : Program} {w : World} {dT sT ty e : TypeId} {g cap len c k K : Nat} {u : Value} {ys xs : List Value} (hu : P.underlying dT = some (.slice e)) (hs : (P.info? e).map (·.size) = some K)
  (hO : OwnR w e K g cap len ys) (hR : RdV w K u k xs) (hk : k ≤ len) (h1 : oneAll xs = true) :
  ∃ w', (vS (Builtin.copy_ #[dT, sT] ty #[.slice (some ⟨g, 0, none⟩) len c, u])).run P w = .ok (.value (.int .i64 k)) w' ∧ OwnR w' e K g cap len (xs ++ ys.drop (k * K)) ∧ Ext [g] w w' ∧ w'.heap.size = w.heap.size := by
 obtain ⟨⟨cur, hb, hcs, ht⟩, h2, h3, h4⟩ := hO
 have hxl : xs.length = k * K := hR.len
 have hkl : k * K ≤ len * K := Nat.mul_le_mul_right K hk
 have hlc : len * K ≤ cap * K := Nat.mul_le_mul_right K h2
 rcases hR with ⟨a, c', rfl, rfl, hx⟩ | ⟨b, off, c', rfl, h5, h6, h7⟩
 ·subst hx
  refine ⟨w, vS_run (run_copyK0 w dT sT ty e _ _ _ _ _ _ hu hs), ?_, Ext.refl _ _, rfl⟩
  exact ⟨⟨cur, hb, hcs, by simpa using ht⟩, h2, h3, by simpa using h4⟩
 ·have hr := run_copyK (P := P) w dT sT ty e g len c ⟨b, off, none⟩ k c' K cur e xs hu hs hb (by rw [hxl]; congr 1; exact (Nat.min_eq_left hk).symm) (fun j v hj => by rw [addr_add]; exact h7 j v hj) (by rw [hxl]; omega) (oneAll_spec h1)
  rw [show Nat.min k len = k from Nat.min_eq_left hk] at hr
  refine ⟨_, vS_run hr, ⟨⟨_, setRow_heap w g cur _ e _ hb, ?_, ?_⟩, h2, h3, ?_⟩, ⟨rfl, rfl, rfl, by simp, fun j _ hj => setRow_other w g j _ (fun e => hj (by simp [e]))⟩, by simp⟩
  ·simp [hxl, hcs]; omega
  ·simp only [hxl]
   rw [List.take_append, hxl, List.take_of_length_le (l := xs) (by omega), ← ht, List.drop_take]
  ·rw [List.length_append, List.length_drop, hxl, h4]; omega
theorem make_lenN {P : Program} {w : World} {T E : TypeId} {size bytes : Nat} {z : Array Value} {l : Nat} (ht : P.underlying T = some (.slice E)) (hinf : infoOf P E = some (size, bytes, z)) (hb : bytes * l ≤ 281474976710656) (hl : l ≤ 9223372036854775807) :
  ∃ w' xs, (vS (Instr.makeSlice T (.int .i64 (l : Int)) (.int .i64 (l : Int)))).run P w = .ok (.value (.slice (some ⟨w.heap.size, 0, none⟩) l l)) w' ∧ OwnR w' E size w.heap.size l l xs ∧ Ext [] w w' ∧ w'.heap.size = w.heap.size + 1 := by
 have hb' : (bytes : Int) * (l : Int) ≤ 281474976710656 := by
  have : ((bytes * l : Nat) : Int) ≤ ((281474976710656 : Nat) : Int) := Int.ofNat_le.2 hb
  simpa using this
 have h := make_len (P := P) (w := w) (l := (l : Int)) ht hinf (by omega) hb' (by omega)
 simpa using h
theorem setL_app {A B vs : List Value} {o : Nat} (ho : o = A.length) (hB : vs.length ≤ B.length) : setL (A ++ B) o vs = A ++ vs ++ B.drop vs.length := by
 subst ho
 refine List.ext_getElem? fun p => ?_
 rw [setL_at _ _ _ _ (by rw [List.length_append]; omega)]
 split
 ·rename_i h
  rw [List.append_assoc, List.getElem?_append_right h.1, List.getElem?_append_left (by omega)]
 ·rename_i h
  rcases Nat.lt_or_ge p A.length with h1 | h1
  ·rw [List.append_assoc, List.getElem?_append_left h1, List.getElem?_append_left h1]
  ·rw [List.append_assoc, List.getElem?_append_right h1, List.getElem?_append_right h1, List.getElem?_append_right (by omega), List.getElem?_drop]
   congr 1; omega
theorem bytes_beq (s : ByteArray) : (s == s) = true := by
 obtain ⟨d⟩ := s
 show (d == d) = true
 simp
def fldOk (P : Program) (cs : Array Value) (f : Field) : Bool := match P.underlying f.type, cs[f.offset]? with
 | some (.int _), some (.int _ _) => true
 | some .string, some (.string _) => true
 | _, _ => false
theorem eqFields_same {P : Program} {w : World} {cs : Array Value} {d : Nat} : ∀ (fs : List Field), fs.all (fldOk P cs) = true → (Op.eqFields (d + 1) cs cs fs).run P w = .ok true w
 | [], _ => rfl
 | f :: fs, h => by
  simp only [List.all_cons, Bool.and_eq_true] at h
  obtain ⟨h1, h3⟩ := h
  have ih := eqFields_same (P := P) (w := w) (cs := cs) (d := d) fs h3
  simp only [Op.eqFields]
  unfold fldOk at h1
  split at h1
  ·rename_i k' k z hk' hv
   have hp : (part f.type cs f.offset).run P w = .ok (.int k z) w := by
    simp [part, isAgg, run_underlying hk', hv]
   have he : (Op.equalIn (d + 1) f.type (.int k z) (.int k z)).run P w = .ok true w := by
    rw [run_equalIn_int w d f.type k k' z z hk']; simp
   split
   ·simp [hp, he, ih]
   ·exact ih
  ·rename_i s hk' hv
   have hp : (part f.type cs f.offset).run P w = .ok (.string s) w := by
    simp [part, isAgg, run_underlying hk', hv]
   have he : (Op.equalIn (d + 1) f.type (.string s) (.string s)).run P w = .ok true w := by
    simp [Op.equalIn, run_underlying hk', bytes_beq]
   split
   ·simp [hp, he, ih]
   ·exact ih
  ·cases h1
def closedB3 (P : Program) (T : TypeId) (cs : Array Value) : Bool := isStruct P T && !P.stoodInHeld T && !P.eqGuardType P.depth T && (P.fieldsOf T).toList.all (fldOk P cs)
theorem bin_agg_same {P : Program} {w : World} {T : TypeId} {x y : Operand} {cs : Array Value} (hT : closedB3 P T cs = true) :
  (vS (do eqGuard .eql T x y (.agg cs) (.agg cs); binOp .eql T (.agg cs) (.agg cs))).run P w = .ok (.value (.bool true)) w ∧
  (vS (do eqGuard .neq T x y (.agg cs) (.agg cs); binOp .neq T (.agg cs) (.agg cs))).run P w = .ok (.value (.bool false)) w := by
 simp only [closedB3, Bool.and_eq_true, Bool.not_eq_true'] at hT
 obtain ⟨⟨⟨h1, h2⟩, h3⟩, h4⟩ := hT
 have ht : P.underlying T = some (.struct (P.fieldsOf T)) := by
  unfold isStruct at h1
  unfold Program.fieldsOf
  split at h1
  ·rename_i fs hfs; simp [hfs]
  ·cases h1
 have he : (Op.equalIn 10000 T (.agg cs) (.agg cs)).run P w = .ok true w := by
  rw [show (10000 : Nat) = 9998 + 1 + 1 from rfl, run_equalIn_agg w (9998 + 1) T cs cs ht h2]
  exact eqFields_same _ h4
 constructor
 ·refine vS_run ?_
  simp [run_eqGuard_agg w .eql T x y cs cs h3, run_eql_struct, he]
 ·refine vS_run ?_
  simp [run_eqGuard_agg w .neq T x y cs cs h3, run_neq_struct, he]
end Go.Vc
namespace Go.Proofs.YtkkpghlcmcaoiaaDoor
open Go.Vc Go.Gm
inductive Ex
 | mk (kd fr to mi ma : Int) (la : Option Addr) (lc : Nat) (kids : List Ex)
namespace Ex
def kd : Ex → Int | .mk a _ _ _ _ _ _ _ => a
def fr : Ex → Int | .mk _ a _ _ _ _ _ _ => a
def to : Ex → Int | .mk _ _ a _ _ _ _ _ => a
def mi : Ex → Int | .mk _ _ _ a _ _ _ _ => a
def ma : Ex → Int | .mk _ _ _ _ a _ _ _ => a
def la : Ex → Option Addr | .mk _ _ _ _ _ a _ _ => a
def lc : Ex → Nat | .mk _ _ _ _ _ _ a _ => a
def kids : Ex → List Ex | .mk _ _ _ _ _ _ _ l => l
def ls (e : Ex) : Value := .slice e.la e.kids.length e.lc
def cellsW (e : Ex) (v : Value) : List Value := [I6 e.kd, I6 e.fr, I6 e.to, I6 e.mi, I6 e.ma, v]
def cells (e : Ex) : List Value := e.cellsW e.ls
end Ex
def ecells (l : List Ex) : List Value := l.flatMap Ex.cells
theorem ecells_at (l : List Ex) (j i : Nat) (x : Ex) (h : l[j]? = some x) (hi : i < 6) : (ecells l)[j * 6 + i]? = x.cells[i]? := flat_at (k := 6) (fun _ => rfl) l j i x h hi
theorem ecells_len (l : List Ex) : (ecells l).length = l.length * 6 := flat_len (k := 6) (fun _ => rfl) l
theorem ecells_app (a b : List Ex) : ecells (a ++ b) = ecells a ++ ecells b := by simp [ecells]
inductive Ex.Ok (w : World) : Ex → Prop
 | mk {a b c d e : Int} {la : Option Addr} {lc : Nat} {kids : List Ex} : RdV w 6 (.slice la kids.length lc) kids.length (ecells kids) → kids.length ≤ 1048576 → oneAll (ecells kids) = true → (∀ k ∈ kids, Ex.Ok w k) → Ex.Ok w (.mk a b c d e la lc kids)
theorem Ex.Ok.rd {w : World} {e : Ex} (h : e.Ok w) : RdV w 6 e.ls e.kids.length (ecells e.kids) := by cases h; assumption
theorem Ex.Ok.max {w : World} {e : Ex} (h : e.Ok w) : e.kids.length ≤ 1048576 := by cases h; assumption
theorem Ex.Ok.one {w : World} {e : Ex} (h : e.Ok w) : oneAll (ecells e.kids) = true := by cases h; assumption
theorem Ex.Ok.kid {w : World} {e : Ex} (h : e.Ok w) : ∀ k ∈ e.kids, Ex.Ok w k := by cases h; assumption
theorem Ex.Ok.ext0 {w w' : World} {e : Ex} (h : e.Ok w) (hE : Ext [] w w') : e.Ok w' := by
 induction h with
 | mk h1 h2 h3 _ ih => exact .mk (h1.ext0 hE) h2 h3 ih
theorem Ex.kid_lt {e k : Ex} (h : k ∈ e.kids) : SizeOf.sizeOf k < SizeOf.sizeOf e := by
 cases e with
 | mk a b c d f la lc kids =>
  have := List.sizeOf_lt_of_mem (show k ∈ kids from h)
  simp only [Ex.mk.sizeOf_spec]
  omega
/-! ### levels -/
def lev (l : List Ex) : List Ex := l.flatMap Ex.kids
inductive GdR : List Ex → Nat → Nat → Int → Prop
 | over {l : List Ex} {c d : Nat} : 4096 < c + (lev l).length → GdR l c d 2
 | flat {l : List Ex} {c d : Nat} : c + (lev l).length ≤ 4096 → lev l = [] → d ≤ 64 → GdR l c d 0
 | deep {l : List Ex} {c d : Nat} : c + (lev l).length ≤ 4096 → lev l = [] → 64 < d → GdR l c d 5
 | next {l : List Ex} {c d : Nat} {z : Int} : c + (lev l).length ≤ 4096 → lev l ≠ [] → GdR (lev l) (c + (lev l).length) (d + 1) z → GdR l c d z
theorem GdR.same {l : List Ex} {c d : Nat} {z z' : Int} (h : GdR l c d z) : GdR l c d z' → z = z' := by
 induction h with
 | over h => intro h'; cases h' <;> first | rfl | omega
 | flat h1 h2 h3 =>
  intro h'
  cases h' with
  | over => omega
  | flat => rfl
  | deep => omega
  | next _ h => exact absurd h2 h
 | deep h1 h2 h3 =>
  intro h'
  cases h' with
  | over => omega
  | flat => omega
  | deep => rfl
  | next _ h => exact absurd h2 h
 | next h1 h2 _ ih =>
  intro h'
  cases h' with
  | over => omega
  | flat _ h => exact absurd h h2
  | deep _ h => exact absurd h h2
  | next _ _ h => exact ih h
theorem lev_take {l : List Ex} {i : Nat} {x : Ex} (h : l[i]? = some x) : lev (l.take (i + 1)) = lev (l.take i) ++ x.kids := by
 rw [List.take_add_one, h, lev, List.flatMap_append]; simp [lev]
theorem lev_take_le (l : List Ex) (i : Nat) : (lev (l.take i)).length ≤ (lev l).length := by
 rw [show lev l = lev (l.take i) ++ lev (l.drop i) by rw [lev, lev, lev, ← List.flatMap_append, List.take_append_drop], List.length_append]
 omega
structure RowE (N : Nat) (w : World) (bs : Option Addr) (n cp : Nat) (zs : List Ex) : Prop where
 own : OwnV w 98 6 (.slice bs n cp) n (ecells zs)
 new : ∀ x ∈ ob (.slice bs n cp), N ≤ x
theorem RowE.len {N : Nat} {w : World} {bs : Option Addr} {n cp : Nat} {zs : List Ex} (h : RowE N w bs n cp zs) : zs.length = n := by
 have := h.own.len
 rw [ecells_len] at this; omega
theorem lev_ok {w : World} {l : List Ex} (h : ∀ x ∈ l, Ex.Ok w x) : ∀ x ∈ lev l, Ex.Ok w x := fun x hx => by
 obtain ⟨y, hy, hx⟩ := List.mem_flatMap.1 hx
 exact (h y hy).kid x hx
/-! ### twins -/
def zcells : List Ex → List Value → List Value
 | e :: l, v :: vs => e.cellsW v ++ zcells l vs
 | _, _ => []
def markE : List Value := [I6 93, I6 0, I6 0, I6 0, I6 0, .slice none 0 0]
theorem zcells_len : ∀ {l : List Ex} {vs : List Value}, vs.length = l.length → (zcells l vs).length = l.length * 6
 | [], [], _ => rfl
 | e :: l, v :: vs, h => by
  have := zcells_len (l := l) (vs := vs) (by simpa using h)
  simp only [zcells, List.length_append, List.length_cons, this]
  simp [Ex.cellsW]; omega
theorem zcells_snoc : ∀ {l : List Ex} {vs : List Value} {j : Nat} {x : Ex} {v : Value}, l[j]? = some x → vs.length = j → zcells (l.take (j + 1)) (vs ++ [v]) = zcells (l.take j) vs ++ x.cellsW v
 | [], _, _, _, _, h, _ => by simp at h
 | e :: l, [], _, x, v, h, hj => by
  subst hj
  simp only [List.length_nil, List.getElem?_cons_zero, Option.some.injEq] at h
  subst h
  simp [zcells]
 | e :: l, u :: vs, _, x, v, h, hj => by
  subst hj
  rw [List.length_cons, List.getElem?_cons_succ] at h
  have := zcells_snoc (v := v) h rfl
  simp only [List.length_cons, List.take_succ_cons, List.cons_append, zcells, this, List.append_assoc]
inductive Tw (w : World) : Nat → Value → Ex → Prop
 | nil {N : Nat} {e : Ex} : e.kids = [] → Tw w N (.slice none 0 0) e
 | row {N g : Nat} {e : Ex} {vs : List Value} : e.kids ≠ [] → e.kids.length ≤ 1048576 → vs.length = e.kids.length → OwnR w 98 6 g (e.kids.length + 1) (e.kids.length + 1) (zcells e.kids vs ++ markE) → N ≤ g →
   (∀ (i : Nat) (v : Value) (k : Ex), vs[i]? = some v → e.kids[i]? = some k → Tw w N v k) → Tw w N (.slice (some ⟨g, 0, none⟩) e.kids.length (e.kids.length + 1)) e
theorem Tw.extN {w w' : World} {N : Nat} {v : Value} {e : Ex} {M : List Nat} (h : Tw w N v e) (hE : Ext M w w') : (∀ x ∈ M, x < N) → Tw w' N v e := by
 induction h with
 | nil h => intro _; exact .nil h
 | row h1 h2 h3 h4 h5 _ ih => intro hM; exact .row h1 h2 h3 (h4.ext hE fun hm => by have := hM _ hm; omega) h5 fun i v k hv hk => ih i v k hv hk hM
theorem Tw.ext0 {w w' : World} {N : Nat} {v : Value} {e : Ex} (h : Tw w N v e) (hE : Ext [] w w') : Tw w' N v e := h.extN hE fun x hx => by cases hx
theorem Tw.mono {w : World} {N N' : Nat} {v : Value} {e : Ex} (h : Tw w N v e) : N' ≤ N → Tw w N' v e := by
 induction h with
 | nil h => intro _; exact .nil h
 | row h1 h2 h3 h4 h5 _ ih => intro hN; exact .row h1 h2 h3 h4 (Nat.le_trans hN h5) fun i v k hv hk => ih i v k hv hk hN
theorem zc_step {l : List Ex} {vs xm : List Value} {k : Nat} {x : Ex} {v : Value} (hx : l[k]? = some x) (hv : vs.length = k) (hl : xm.length = (l.length + 1) * 6) :
  setL (zcells (l.take k) vs ++ xm.drop (k * 6)) (0 + k * 6) (x.cellsW v) = zcells (l.take (k + 1)) (vs ++ [v]) ++ xm.drop ((k + 1) * 6) := by
 have hk := (List.getElem?_eq_some_iff.1 hx).1
 have h6 : (x.cellsW v).length = 6 := rfl
 rw [setL_app (by rw [zcells_len (by rw [List.length_take]; omega), List.length_take]; omega) (by rw [List.length_drop, h6]; omega), zcells_snoc hx hv, h6, List.drop_drop]
 congr 2; omega
theorem zc_mark {l : List Ex} {vs xm : List Value} (hv : vs.length = l.length) (hl : xm.length = (l.length + 1) * 6) :
  setL (zcells (l.take l.length) vs ++ xm.drop (l.length * 6)) (0 + l.length * 6) markE = zcells l vs ++ markE := by
 have h6 : markE.length = 6 := rfl
 rw [List.take_length, setL_app (by rw [zcells_len hv]; omega) (by rw [List.length_drop, h6]; omega), h6, List.drop_drop, List.drop_eq_nil_of_le (by omega), List.append_nil]
def TwE (w : World) (N : Nat) (v : Value) (t : Ex) : Prop := ∃ z, GdR [t] 1 1 z ∧ ((z = 0 ∧ Tw w N v t) ∨ (z ≠ 0 ∧ v = t.ls))
theorem TwE.extN {w w' : World} {N : Nat} {v : Value} {t : Ex} {M : List Nat} (h : TwE w N v t) (hE : Ext M w w') (hM : ∀ x ∈ M, x < N) : TwE w' N v t := by
 obtain ⟨z, h1, h2⟩ := h
 exact ⟨z, h1, h2.imp (fun h => ⟨h.1, h.2.extN hE hM⟩) id⟩
theorem TwE.ext0 {w w' : World} {N : Nat} {v : Value} {t : Ex} (h : TwE w N v t) (hE : Ext [] w w') : TwE w' N v t := h.extN hE fun x hx => by cases hx
theorem TwE.mono {w : World} {N N' : Nat} {v : Value} {t : Ex} (h : TwE w N v t) (hN : N' ≤ N) : TwE w N' v t := by
 obtain ⟨z, h1, h2⟩ := h
 exact ⟨z, h1, h2.imp (fun h => ⟨h.1, h.2.mono hN⟩) id⟩
end Go.Proofs.YtkkpghlcmcaoiaaDoor
