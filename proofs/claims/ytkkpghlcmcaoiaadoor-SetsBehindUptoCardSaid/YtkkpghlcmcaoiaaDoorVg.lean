/- Calls through an interface value, rows cut at either end, calls of functions that have no text: in the calculus of sparse frames. It states nothing of any program. -/
import Derived.Test.YtkkpghlcmcaoiaaDoorVs
import Derived.Laws.Externs
import Derived.Lib.Bytealg
import Derived.Lib.BytesEntry
import Derived.Laws.BytesArg
namespace Go.Vc
open Go

/-! ### a call that is entered, whatever names the function -/

def closedM (P : Program) : Sem Next → Option (FuncId × Array Value)
  | .pure (.enter f args) => some (f, args)
  | .program k => closedM P (k P)
  | _ => none

theorem closedM_run {P : Program} {s : Sem Next} {f : FuncId} {args : Array Value} (h : closedM P s = some (f, args)) (w : World) : s.run P w = .ok (.enter f args) w := by
  induction s with
  | pure a => cases a <;> simp [closedM] at h; obtain ⟨rfl, rfl⟩ := h; rfl
  | program k ih => simp only [closedM] at h; simp only [Sem.run]; exact ih P h
  | _ => simp [closedM] at h

def enterOf (P : Program) (ops : Array Oper) (n : Nat) (m : Fm) (i : Nat) : Option (FuncId × Array Value × Option Nat) := match effOf ops n m i with
  | some o => match closedM P (execOp (fenv m) o) with
    | some (f, args) => some (f, args, o.dst)
    | none => none
  | none => none

section
variable {F : Fence} {P : Program} {ops : Array Oper} {Q : Exit → Act → World → Prop} {a : Act} {w : World} {n : Nat} {ds : List Deferred} {m : Fm}

theorem enterOf_spec {i : Nat} {f : FuncId} {args : Array Value} {d : Option Nat} (h : enterOf P ops n m i = some (f, args, d)) :
    ∃ o, effOf ops n m i = some o ∧ o.dst = d ∧ ∀ w, (execOp (fenv m) o).run P w = .ok (.enter f args) w := by
  unfold enterOf at h
  split at h
  · rename_i o he
    split at h
    · rename_i f' args' hc
      simp only [Option.some.injEq, Prod.mk.injEq] at h
      obtain ⟨rfl, rfl, rfl⟩ := h
      exact ⟨o, he, rfl, closedM_run hc⟩
    · cases h
  · cases h

theorem upon_enter {i : Nat} {f : FuncId} {args : Array Value} {d : Option Nat} {R : Ending → World → Prop} {Post : Value → World → Prop} (ho : enterOf P ops n m i = some (f, args, d))
    (hC : Calls P f args w R) (hp : ∀ e w', R e w' → ∃ v, e = .returned v ∧ Post v w') : UponAt P ops n m i w Post := by
  obtain ⟨o, he, _, hr⟩ := enterOf_spec ho
  exact ⟨o, he, .inr (.inr (.inl ⟨f, args, w, hr w, hC.mono hp⟩))⟩

theorem eff_enter (hW : Wide F) {i r : Nat} {f : FuncId} {args : Array Value} {d : Option Nat} {R : Ending → World → Prop} (hS : St n ds m a) (ho : enterOf P ops n m i = some (f, args, d))
    (hC : Calls P f args w R) (hk : ∀ e w', R e w' → ∃ v, e = .returned v ∧ ∀ a', St n ds (fput m d v) a' → wpOpsIn F 0 P ops Q (List.range' (i + 1) r) a' w') : wpOpsIn F 0 P ops Q (List.range' i (r + 1)) a w := by
  obtain ⟨o, he, hd, _⟩ := enterOf_spec ho
  refine eff_upon hW hS (upon_enter (Post := fun v w' => ∀ a', St n ds (fput m d v) a' → wpOpsIn F 0 P ops Q (List.range' (i + 1) r) a' w') ho hC hk) ?_
  intro o' ho' v w' a' hp hS'
  have h1 := (effOf_spec he).1
  rw [h1] at ho'; cases ho'
  rw [hd] at hS'
  exact hp a' hS'
end

/-! ### bytes -/

def bv (xs : List Int) : List Value := xs.map fun x => .int .u8 x
@[simp] theorem bv_len (xs : List Int) : (bv xs).length = xs.length := by simp [bv]
theorem bv_at {xs : List Int} {j : Nat} {x : Int} (h : xs[j]? = some x) : (bv xs)[j]? = some (.int .u8 x) := by simp [bv, h]
theorem bv_app (xs ys : List Int) : bv (xs ++ ys) = bv xs ++ bv ys := by simp [bv]
theorem bv_take (xs : List Int) (k : Nat) : bv (xs.take k) = (bv xs).take k := by simp [bv, List.map_take]
theorem bv_drop (xs : List Int) (k : Nat) : bv (xs.drop k) = (bv xs).drop k := by simp [bv, List.map_drop]
theorem bv_one (xs : List Int) : oneAll (bv xs) = true := by
  induction xs with
  | nil => rfl
  | cons x xs ih => simp only [bv, List.map_cons, oneAll] at ih ⊢; exact ih
def BR (xs : List Int) : Prop := ∀ x ∈ xs, 0 ≤ x ∧ x < 256
theorem BR.app {xs ys : List Int} (h : BR xs) (h' : BR ys) : BR (xs ++ ys) := fun x hx => (List.mem_append.1 hx).elim (h x) (h' x)
theorem BR.take {xs : List Int} (h : BR xs) (k : Nat) : BR (xs.take k) := fun x hx => h x (List.mem_of_mem_take hx)
theorem BR.drop {xs : List Int} (h : BR xs) (k : Nat) : BR (xs.drop k) := fun x hx => h x (List.mem_of_mem_drop hx)
theorem BR.nil : BR [] := fun _ h => by cases h

/-- how many rows end in them -/
def rws (xs : List Int) : Nat := xs.count 10
@[simp] theorem rws_nil : rws [] = 0 := rfl
theorem rws_app (xs ys : List Int) : rws (xs ++ ys) = rws xs + rws ys := by simp [rws]
theorem rws_le (xs : List Int) : rws xs ≤ xs.length := List.count_le_length

/-! ### rows cut -/

def capOf : Value → Nat
  | .slice _ _ c => c
  | _ => 0
def rsub (v : Value) (l h m : Nat) : Value := match v with
  | .slice a _ _ => .slice (if m = l then a else a.map (·.add l)) (h - l) (m - l)
  | v => v

section
variable {w w' : World} {n : Nat} {v : Value} {xs : List Value}

theorem RdV.form {size : Nat} (h : RdV w size v n xs) : ∃ a c, v = .slice a n c := by
  rcases h with ⟨a, c, rfl, rfl, _⟩ | ⟨b, off, cap, rfl, _, h2, _⟩
  · exact ⟨a, c, rfl⟩
  · exact ⟨some ⟨b, off, none⟩, cap, rfl⟩
theorem RdV.extL {w0 : World} {M : List Nat} {size : Nat} (hs : 0 < size) (h : RdV w size v n xs) (h0 : RdV w0 size v n xs) (hE : Ext M w w') (hM : ∀ x ∈ M, w0.heap.size ≤ x) : RdV w' size v n xs := by
  rcases Nat.eq_zero_or_pos n with rfl | hn
  · obtain ⟨a, c, rfl⟩ := h.form
    have hl := h.len
    exact .inl ⟨a, c, rfl, rfl, List.eq_nil_of_length_eq_zero (by simpa using hl)⟩
  · refine h.ext hE fun b hb hm => ?_
    have h1 := hM b hm
    rcases h0 with ⟨a, c, rfl, rfl, _⟩ | ⟨b', off, cap, rfl, h2, _, h3⟩
    · omega
    · have hbb : b = b' := by simpa [ob] using hb
      subst hbb
      have hp : 0 < xs.length := by rw [h2]; exact Nat.mul_pos hn hs
      have hc := h3 0 xs[0] (List.getElem?_eq_getElem hp)
      rcases Nat.lt_or_ge b w0.heap.size with h4 | h4
      · omega
      · rw [World.cell?, Array.getElem?_eq_none h4] at hc; cases hc

theorem RdV.le_cap (h : RdV w 1 v n xs) : n ≤ capOf v := by
  rcases h with ⟨a, c, rfl, rfl, _⟩ | ⟨b, off, cap, rfl, _, h2, _⟩
  · exact Nat.zero_le _
  · exact h2

theorem RdV.sub (h : RdV w 1 v n xs) {l k m : Nat} (hl : l ≤ k) (hk : k ≤ n) (hm : k ≤ m) : RdV w 1 (rsub v l k m) (k - l) ((xs.drop l).take (k - l)) := by
  rcases h with ⟨a, c, rfl, rfl, rfl⟩ | ⟨b, off, cap, rfl, h1, h2, h3⟩
  · obtain rfl : k = 0 := by omega
    exact .inl ⟨_, _, by rw [rsub, Nat.zero_sub], by simp, by simp⟩
  · by_cases hkl : k = l
    · subst hkl
      exact .inl ⟨_, _, by rw [rsub, Nat.sub_self], by simp, by simp⟩
    · refine .inr ⟨b, off + l, m - l, ?_, ?_, by omega, fun j u hu => ?_⟩
      · have hne : m ≠ l := by omega
        simp only [rsub, if_neg hne, Option.map_some]
        have hadd : (⟨b, off, none⟩ : Addr).add l = ⟨b, off + l, none⟩ := addr_add b off l
        rw [hadd]
      · rw [List.length_take, List.length_drop]; omega
      · rw [List.getElem?_take] at hu
        split at hu
        · rw [List.getElem?_drop] at hu
          rw [show off + l + j = off + (l + j) by omega]
          exact h3 (l + j) u hu
        · cases hu

theorem RdV.subb {xs : List Int} (h : RdV w 1 v n (bv xs)) {l k m : Nat} (hl : l ≤ k) (hk : k ≤ n) (hm : k ≤ m) : RdV w 1 (rsub v l k m) (k - l) (bv ((xs.drop l).take (k - l))) := by
  rw [bv_take, bv_drop]; exact h.sub hl hk hm
theorem RdV.subt {xs : List Int} (h : RdV w 1 v n (bv xs)) {k m : Nat} (hk : k ≤ n) (hm : k ≤ m) : RdV w 1 (rsub v 0 k m) k (bv (xs.take k)) := by
  have := h.sub (l := 0) (Nat.zero_le _) hk hm
  rw [Nat.sub_zero, List.drop_zero, ← bv_take] at this
  exact this
theorem RdV.of_blk {size b T : Nat} {cs : Array Value} (h : Blk w b T cs) (hs : cs.size = n * size) : RdV w size (.slice (some ⟨b, 0, none⟩) n n) n cs.toList :=
  .inr ⟨b, 0, n, rfl, by simpa using hs, Nat.le_refl _, fun j u hu => by rw [Nat.zero_add]; exact h.cell j (by simpa using hu)⟩
theorem RdV.at' (he : w' = w) {size : Nat} (h : RdV w size v n xs) : RdV w' size v n xs := he ▸ h
theorem RdV.drew {size : Nat} (h : RdV w size v n xs) : RdV w.drew size v n xs := h.ext0 ((Ext.refl [] w).drew)

theorem sl_rd {P : Program} {w0 : World} {T e : TypeId} {l k : Nat} (lo hi : Option Value) (h : RdV w0 1 v n xs) (hT : closedD P (underlying T) = some (.slice e)) (hs : closedN P (sizeOf e) = some 1)
    (hlo : (lo = none ∧ l = 0) ∨ ∃ kd, lo = some (.int kd (l : Int))) (hhi : (hi = none ∧ k = n) ∨ ∃ kd, hi = some (.int kd (k : Int))) (hl : l ≤ k) (hk : k ≤ n) :
    (vS (Instr.sliceAt T v lo hi none)).run P w = .ok (.value (rsub v l k (capOf v))) w := by
  have hc := h.le_cap
  obtain ⟨a, c, rfl, hn⟩ : ∃ a c, v = .slice a n c ∧ n ≤ c := by
    rcases h with ⟨a, c, rfl, rfl, _⟩ | ⟨b, off, cap, rfl, _, h2, _⟩
    · exact ⟨a, c, rfl, Nat.zero_le _⟩
    · exact ⟨_, cap, rfl, h2⟩
  have hkc : k ≤ c := by omega
  refine vS_run ?_
  rcases hlo with ⟨rfl, rfl⟩ | ⟨kd, rfl⟩ <;> rcases hhi with ⟨rfl, rfl⟩ | ⟨kd', rfl⟩ <;>
    simp [Instr.sliceAt, Instr.slice, Instr.sliceBounds, Instr.sliceBound, asIntOf, closedD_run hT w, closedN_run hs w, hl, hk, hkc, hn, rsub, capOf]
  all_goals rfl

theorem sl_rd3 {P : Program} {w0 : World} {T e : TypeId} {l k m : Nat} {kd kd' kd'' : IntKind} (h : RdV w0 1 v n xs) (hT : closedD P (underlying T) = some (.slice e)) (hs : closedN P (sizeOf e) = some 1)
    (hl : l ≤ k) (hk : k ≤ m) (hm : m ≤ n) :
    (vS (Instr.sliceAt T v (some (.int kd (l : Int))) (some (.int kd' (k : Int))) (some (.int kd'' (m : Int))))).run P w = .ok (.value (rsub v l k m)) w := by
  obtain ⟨a, c, rfl, hn⟩ : ∃ a c, v = .slice a n c ∧ n ≤ c := by
    rcases h with ⟨a, c, rfl, rfl, _⟩ | ⟨b, off, cap, rfl, _, h2, _⟩
    · exact ⟨a, c, rfl, Nat.zero_le _⟩
    · exact ⟨_, cap, rfl, h2⟩
  have hmc : m ≤ c := by omega
  refine vS_run ?_
  simp [Instr.sliceAt, Instr.slice, Instr.sliceBounds, Instr.sliceBound, asIntOf, closedD_run hT w, closedN_run hs w, hl, hk, hmc, rsub]
end

theorem ob_rsub (v : Value) (l k m : Nat) : ob (rsub v l k m) = ob v := by
  cases v with
  | slice a n c =>
    simp only [rsub]
    split
    · cases a <;> rfl
    · cases a with
      | none => rfl
      | some A => simp only [Option.map_some, ob, Addr.add]; split <;> rfl
  | _ => rfl

/-! ### 'append', of whatever is read -/

theorem append_any3 {P : Program} {w : World} {t ty e : TypeId} {size bytes n b off k c : Nat} {z : Array Value} {v : Value} {xs news : List Value} (ht : P.underlying t = some (.slice e)) (hinf : infoOf P e = some (size, bytes, z))
    (hzs : z.size = size) (hown : OwnV w e size v n xs) (hl : news.length = k * size) (hnews : ∀ j u, news[j]? = some u → w.cell? ⟨b, off + j, none⟩ = some u) (h1 : oneAll news = true)
    (hk : 0 < k) (hmax : n + k ≤ maxLen) (hbytes : (n + k) * bytes ≤ 140737488355328) :
    ∃ g cap w', (Builtin.append_ #[t, t] ty #[v, .slice (some ⟨b, off, none⟩) k c]).run P w = .ok (.slice (some ⟨g, 0, none⟩) (n + k) cap) w' ∧ OwnR w' e size g cap (n + k) (xs ++ news) ∧ Ext (ob v) w w' ∧
      ((w.heap.size ≤ g ∧ Ext [] w w') ∨ ∃ c', v = .slice (some ⟨g, 0, none⟩) n c') := by
  obtain ⟨i, zv, hi, hz, rfl, rfl, rfl⟩ := infoOf_spec hinf
  have h63 : n + k ≤ 9223372036854775807 := by simp only [maxLen] at hmax; omega
  have hnews' : ∀ j u, news[j]? = some u → w.cell? ((⟨b, off, none⟩ : Addr).add j) = some u := fun j u hu => by rw [addr_add]; exact hnews j u hu
  have hlen : (xs ++ news).length = (n + k) * i.size := by rw [List.length_append, hown.len, hl, Nat.add_mul]
  have grown : ∀ (old : Nat), OwnR (w.drew.alloc (.cells (xs.toArray ++ news.toArray ++ Builtin.zeroCells zv.cells (grownCap w (n + k) old e - (n + k))) e)) e i.size w.heap.size (grownCap w (n + k) old e) (n + k) (xs ++ news) ∧
      ∀ M, Ext M w (w.drew.alloc (.cells (xs.toArray ++ news.toArray ++ Builtin.zeroCells zv.cells (grownCap w (n + k) old e - (n + k))) e)) := fun old => by
    have hge := grownCap_ge w (n + k) old e
    have hcm : grownCap w (n + k) old e ≤ maxLen := grownCap_le_maxLen w (n + k) old e hmax
    refine ⟨⟨⟨_, Blk.new w.drew _ _, ?_, ?_⟩, hge, hcm, hlen⟩, fun M => (Ext.refl _ w).drew.alloc _⟩
    · have : xs.length = n * i.size := hown.len
      simp only [Array.size_append, List.size_toArray, size_zeroCells, hzs, this, hl, ← Nat.add_mul]
      congr 1
      omega
    · simp only [Array.toList_append, List.append_assoc]
      rw [← List.append_assoc, ← hlen]
      exact List.take_left
  rcases hown with ⟨rfl, rfl, rfl⟩ | ⟨g, cap, rfl, hO⟩
  · have hr := run_append_nil (P := P) w t ty e i zv ht hi hz ⟨b, off, none⟩ k c news hl hnews' hk (by omega) (by have hb := hbytes; simp only [Nat.zero_add] at hb; omega)
    obtain ⟨h2, h3⟩ := grown 0
    simp only [Nat.zero_add, List.nil_append, Array.empty_append] at h2 h3 ⊢
    exact ⟨_, _, _, hr, h2, h3 _, .inl ⟨Nat.le_refl _, h3 _⟩⟩
  · obtain ⟨⟨cur, hg, hcs, htake⟩, hnc, hcm, hxl⟩ := hO
    by_cases hroom : n + k ≤ cap
    · have hfit : n * i.size + news.length ≤ cur.size := by rw [hl, hcs, ← Nat.add_mul]; exact Nat.mul_le_mul_right _ hroom
      have hr := run_append_room (P := P) w t ty e i ht hi g n cap cur hg ⟨b, off, none⟩ k c news hl hnews' (oneAll_spec h1) hroom hfit
      refine ⟨_, _, _, hr, ⟨⟨_, setRow_heap w g cur _ e _ hg, ?_, ?_⟩, hroom, hcm, hlen⟩, ⟨rfl, rfl, rfl, by simp, fun j _ hj => setRow_other w g j _ (fun e => hj (by simp [ob, e]))⟩, .inr ⟨_, rfl⟩⟩
      · simp only [List.size_toArray, List.length_append, List.length_take, List.length_drop, Array.length_toList]
        omega
      · rw [htake, ← hlen]
        exact List.take_left
    · have hO : OwnR w e i.size g cap n xs := ⟨⟨cur, hg, hcs, htake⟩, hnc, hcm, hxl⟩
      have holds : ∀ j u, xs[j]? = some u → w.cell? ((⟨g, 0, none⟩ : Addr).add j) = some u := fun j u hu => by rw [addr_add, Nat.zero_add]; exact hO.cellAt j hu
      have hr := run_append_grow (P := P) w t ty e i zv ht hi hz ⟨g, 0, none⟩ n cap xs hxl holds ⟨b, off, none⟩ k c news hl hnews' (by omega) (by omega) (growslice_fits (by omega) hbytes)
      obtain ⟨h2, h3⟩ := grown cap
      exact ⟨_, _, _, hr, h2, h3 _, .inl ⟨Nat.le_refl _, h3 _⟩⟩

/-- what an append hands back: the elder row grown in its place, or a new one and nothing turned -/
structure Apd (w w' : World) (e : TypeId) (size : Nat) (v : Value) (bs : Option Addr) (cap n k : Nat) (xs news : List Value) : Prop where
  own : OwnV w' e size (.slice bs (n + k) cap) (n + k) (xs ++ news)
  ext : Ext (ob v) w w'
  how : (∀ x ∈ ob (.slice bs (n + k) cap), w.heap.size ≤ x) ∧ Ext [] w w' ∨ ∃ c, v = .slice bs n c

theorem Apd.fresh {w w' : World} {e : TypeId} {size : Nat} {v : Value} {bs : Option Addr} {cap n k : Nat} {xs news : List Value} (h : Apd w w' e size v bs cap n k xs news) :
    Fresh w.heap.size (ob v) (ob (.slice bs (n + k) cap)) := fun x hx => by
  rcases h.how with ⟨h1, _⟩ | ⟨c, rfl⟩
  · exact .inr (h1 x hx)
  · refine .inl ?_
    cases bs with
    | none => exact hx
    | some a => exact hx

theorem append_rd {P : Program} {w : World} {t ty e : TypeId} {size bytes n k : Nat} {z : Array Value} {v u : Value} {xs news : List Value} (ht : P.underlying t = some (.slice e)) (hinf : infoOf P e = some (size, bytes, z))
    (hzs : Nat.beq z.size size = true) (hown : OwnV w e size v n xs) (hsrc : RdV w size u k news) (h1 : oneAll news = true) (hmax : n + k ≤ 140737488355328) (hbytes : (n + k) * bytes ≤ 140737488355328) :
    ∃ bs cap w', (Builtin.append_ #[t, t] ty #[v, u]).run P w = .ok (.slice bs (n + k) cap) w' ∧ Apd w w' e size v bs cap n k xs news := by
  rcases hsrc with ⟨a, c, rfl, rfl, rfl⟩ | ⟨b, off, cap, rfl, h2, h3, h4⟩
  · obtain ⟨bs, c', rfl⟩ := hown.form
    exact ⟨bs, c', w, append_none (z := z) ht hinf hown, by simpa using hown, Ext.refl _ _, .inr ⟨_, rfl⟩⟩
  · rcases Nat.eq_zero_or_pos k with rfl | hk
    · obtain ⟨bs, c', rfl⟩ := hown.form
      have : news = [] := List.eq_nil_of_length_eq_zero (by simpa using h2)
      subst this
      exact ⟨bs, c', w, append_none (z := z) ht hinf hown, by simpa using hown, Ext.refl _ _, .inr ⟨_, rfl⟩⟩
    · obtain ⟨g, cap', w', hr, hO, hE, hF⟩ := append_any3 (P := P) (w := w) (ty := ty) (c := cap) ht hinf (Nat.eq_of_beq_eq_true hzs) hown h2 h4 h1 hk (by simp only [maxLen]; omega) hbytes
      refine ⟨_, _, _, hr, hO.v, hE, ?_⟩
      rcases hF with ⟨h5, h6⟩ | h5
      · exact .inl ⟨fun x hx => by simp [ob] at hx; omega, h6⟩
      · exact .inr h5

section
variable {F : Fence} {P : Program} {ops : Array Oper} {Q : Exit → Act → World → Prop} {a : Act} {w : World} {n : Nat} {ds : List Deferred} {m : Fm}
theorem eff_append_rd (hW : Wide F) {i r : Nat} {d : Option Nat} {t ty e : TypeId} {size bytes len k : Nat} {z : Array Value} {v u : Value} {xs news : List Value} (hS : St n ds m a)
    (ho : runOf ops n m i = some (vS (Builtin.append_ #[t, t] ty #[v, u]), d))
    (ht : P.underlying t = some (.slice e)) (hinf : infoOf P e = some (size, bytes, z)) (hzs : Nat.beq z.size size = true) (hown : OwnV w e size v len xs) (hsrc : RdV w size u k news) (h1 : oneAll news = true)
    (hmax : len + k ≤ 140737488355328) (hbm : (len + k) * bytes ≤ 140737488355328)
    (hk : ∀ bs cap a' w', Apd w w' e size v bs cap len k xs news → St n ds (fput m d (.slice bs (len + k) cap)) a' → wpOpsIn F 0 P ops Q (List.range' (i + 1) r) a' w') :
    wpOpsIn F 0 P ops Q (List.range' i (r + 1)) a w := by
  obtain ⟨bs, cap, w', hrun, hA⟩ := append_rd (P := P) (w := w) (ty := ty) ht hinf hzs hown hsrc h1 hmax hbm
  exact eff_run hW hS ho (vS_run hrun) fun a' hS' => hk bs cap a' w' hA hS'
end

theorem bin_quo2 {P : Program} {w : World} {T : TypeId} {a b : Operand} {n : Nat} (hn : n ≤ 9223372036854775807) :
    (vS (do eqGuard .quo T a b (.int .i64 (n : Int)) (.int .i64 2); binOp .quo T (.int .i64 (n : Int)) (.int .i64 2))).run P w = .ok (.value (.int .i64 ((n / 2 : Nat) : Int))) w := by
  have h1 : (n : Int).tdiv 2 = ((n / 2 : Nat) : Int) := by rw [Int.tdiv_eq_ediv_of_nonneg (by omega)]; omega
  have h2 := as_i64 (z := ((n / 2 : Nat) : Int)) (by omega)
  simp only [Value.int.injEq, true_and] at h2
  refine vS_run ?_
  have h4 : (binOp .quo T (.int .i64 (n : Int)) (.int .i64 2)).run P w = .ok (.int .i64 (IntKind.i64.wrap ((n : Int).tdiv 2))) w := rfl
  rw [h1, h2] at h4
  simpa [eqGuard] using h4

/-! ### the library's functions without a text -/
theorem cells_bv {w : World} {a : Addr} {n : Nat} {xs : List Int} (hx : xs.length = n) (h : ∀ j u, (bv xs)[j]? = some u → w.cell? (a.add j) = some u) : ∀ i, i < n → w.cell? (a.add i) = some (.int .u8 (xs.getD i 0)) := fun i hi => by
  refine h i _ ?_
  have : xs[i]? = some xs[i] := List.getElem?_eq_getElem (by omega)
  rw [bv_at this, List.getD_eq_getElem?_getD, this]
  rfl
theorem count_ten : ∀ {xs : List Int}, BR xs → (Lib.bytesOf xs).count 10 = rws xs
  | [], _ => rfl
  | x :: xs, h => by
    have ih := count_ten (xs := xs) fun y hy => h y (by simp [hy])
    have hx := h x (by simp)
    simp only [Lib.bytesOf, List.map_cons, List.count_cons, rws] at ih ⊢
    rw [ih]
    congr 1
    have : (UInt8.ofNat x.toNat == 10) = (x == 10) := by
      rw [Bool.eq_iff_iff, beq_iff_eq, beq_iff_eq]
      constructor
      · intro he
        have := congrArg UInt8.toNat he
        simp at this
        omega
      · rintro rfl; rfl
    rw [this]
theorem run_countR {P : Program} {w : World} {f : FuncId} {fn : Func} {v : Value} {n : Nat} {xs : List Int} (hf : P.funcs[f]? = some fn) (hname : (fn.name == "runtime.NumGoroutine") = false) (hb : fn.body.isNone = true)
    (hn : Extern.findNext fn = none) (he : Extern.find fn = some Extern.BytealgCount.count) (hv : RdV w 1 v n (bv xs)) (hB : BR xs) :
    (callFunc f #[v, .int .u8 10]).run P w = .ok (.value (.int .i64 (rws xs : Nat))) w := by
  have hlen : xs.length = n := by have := hv.len; simpa using this
  have key : (Extern.BytealgCount.count #[v, .int .u8 10]).run P w = .ok (.int .i64 (rws xs : Nat)) w := by
    have hs := Lib.run_countString (P := P) ⟨(Lib.bytesOf xs).toArray⟩ 10 w
    have h10 : (Lib.countByte (Lib.bytesOf xs) (10 : Int).toNat.toUInt8) = rws xs := count_ten hB
    rw [show (⟨(Lib.bytesOf xs).toArray⟩ : ByteArray).data.toList = Lib.bytesOf xs by simp, h10] at hs
    rcases hv with ⟨a, c, rfl, rfl, hx⟩ | ⟨b, off, cap, rfl, h1, h2, h3⟩
    · obtain rfl : xs = [] := List.eq_nil_of_length_eq_zero hlen
      cases a <;> exact hs
    · have hl := Lib.run_loadBytesX (P := P) w xs ⟨b, off, none⟩ .empty (fun j x hj => by rw [addr_add]; exact h3 j _ (bv_at hj))
      have he : (⟨ByteArray.empty.data ++ (Lib.bytesOf xs).toArray⟩ : ByteArray) = ⟨(Lib.bytesOf xs).toArray⟩ := by
        apply ByteArray.ext
        show (#[] : Array UInt8) ++ (Lib.bytesOf xs).toArray = (Lib.bytesOf xs).toArray
        simp
      rw [he, hlen] at hl
      change Sem.run P (do
        let b ← Extern.Bytes.bytesOf (.slice (some ⟨b, off, none⟩) n cap)
        let c' ← Extern.Bytes.asByte (.int .u8 10)
        pure (goInt (b.foldl (fun n x => if x == c' then n + 1 else n) (0 : Nat)))) w = _
      change Sem.run P (do
        let b ← Extern.Bytes.bytesOf (.string ⟨(Lib.bytesOf xs).toArray⟩)
        let c' ← Extern.Bytes.asByte (.int .u8 10)
        pure (goInt (b.foldl (fun n x => if x == c' then n + 1 else n) (0 : Nat)))) w = _ at hs
      simp only [Extern.Bytes.bytesOf, Sem.run_bind, Sem.run_pure, hl, Result.andThen] at hs ⊢
      simpa using hs
  rw [run_callFunc_extern hf hname hb hn he, key]
  rfl
theorem conv_rd {P : Program} {w : World} {src dst e : TypeId} {v : Value} {n : Nat} {xs : List Int} (hs : P.underlying src = some (.slice e)) (he : P.underlying e = some (.int .u8)) (hd : P.underlying dst = some .string)
    (hv : RdV w 1 v n (bv xs)) : (vS (convert src dst v)).run P w = .ok (.value (.string (strOfNums xs))) w := by
  have hlen : xs.length = n := by have := hv.len; simpa using this
  refine vS_run ?_
  rcases hv with ⟨a, c, rfl, rfl, hx⟩ | ⟨b, off, cap, rfl, h1, h2, h3⟩
  · obtain rfl : xs = [] := List.eq_nil_of_length_eq_zero hlen
    rw [run_convert_bytes_string w src dst e _ 0 c hs he hd]
    cases a <;> simp [Conv.bytesToString, loadCells]
    all_goals rfl
  · exact run_convert_bytes_arg (P := P) w src e hs he b off n cap xs hlen (fun i hi => by have := cells_bv hlen (fun j u hu => by rw [addr_add]; exact h3 j u hu) i hi; rwa [addr_add] at this) dst hd
theorem beq_ba (x y : ByteArray) : (x == y) = decide (x = y) := by
  obtain ⟨x⟩ := x
  obtain ⟨y⟩ := y
  rw [Bool.eq_iff_iff, decide_eq_true_iff, ByteArray.mk.injEq]
  exact beq_iff_eq (a := x) (b := y)
theorem str_inj : ∀ {xs ys : List Int}, BR xs → BR ys → (strOfNums xs = strOfNums ys ↔ xs = ys) := fun {xs ys} hx hy => by
  constructor
  · intro h
    have h1 : Lib.bytesOf xs = Lib.bytesOf ys := by rw [← Lib.strOfNums_toList, ← Lib.strOfNums_toList, h]
    have key : ∀ (zs : List Int), BR zs → (Lib.bytesOf zs).map (fun u => (u.toNat : Int)) = zs := fun zs hz => by
      rw [Lib.bytesOf, List.map_map]
      conv => rhs; rw [← List.map_id zs]
      refine List.map_congr_left fun x hx => ?_
      have := hz x hx
      simp
      omega
    rw [← key xs hx, ← key ys hy, h1]
  · rintro rfl; rfl
end Go.Vc
