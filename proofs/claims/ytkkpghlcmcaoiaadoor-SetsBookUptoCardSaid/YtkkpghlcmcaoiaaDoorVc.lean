import Derived.WalkKit
import Derived.RangeFuncNested
import Derived.RangeFuncBound
import Derived.RangeFuncCalls
import Derived.RangeFuncLeaves
import Derived.OrdersIn
import Derived.TacticsIn
namespace Go.Vc
open Go
abbrev Fm := List (Nat × Value)
abbrev Pv (b : Nat) : Value := .pointer (some ⟨b, 0, none⟩)
abbrev I6 (x : Int) : Value := .int .i64 x
abbrev Sl (b n c : Nat) : Value := .slice (some ⟨b, 0, none⟩) n c
abbrev Po (b o : Nat) : Value := .pointer (some ⟨b, o, none⟩)
abbrev Ru (P : Program) (s : Sem Next) (v : Value) (w : World) : Prop := s.run P w = .ok (.value v) w
def fget : Fm → Nat → Option Value
 | [], _ => none
 | (i, v) :: m, j => match Nat.beq i j with
  | true => some v
  | false => fget m j
def fev (m : Fm) : Operand → Option Value
 | .tmp t => fget m t
 | .const v => some v
 | .global g => some (.pointer (some ⟨g, 0, none⟩))
 | .func f => some (.func (.func f) #[] #[])
def fenv (m : Fm) (x : Operand) : Value := match fev m x with
 | some v => v
 | none => undef
structure St (n : Nat) (ds : List Deferred) (m : Fm) (a : Act) : Prop where
 size : a.tmps.size = n
 defers : a.defers = ds
 get : ∀ i v, fget m i = some v → a.tmps[i]? = some v
theorem St.eval {n : Nat} {ds : List Deferred} {m : Fm} {a : Act} (h : St n ds m a) {x : Operand} {v : Value} (hx : fev m x = some v) : a.eval x = v := by
 cases x with
 | tmp t => have := h.get t v hx; simp [Act.eval, Array.getD_eq_getD_getElem?, this]
 | const u => simp only [fev, Option.some.injEq] at hx; exact hx
 | global g => simp only [fev, Option.some.injEq] at hx; exact hx
 | func f => simp only [fev, Option.some.injEq] at hx; exact hx
def fput (m : Fm) (d : Option Nat) (v : Value) : Fm := match d with
 | some d => (d, v) :: m
 | none => m
def dstOk (n : Nat) : Option Nat → Bool
 | some d => Nat.blt d n
 | none => true
theorem St.put {n : Nat} {ds : List Deferred} {m : Fm} {a : Act} (h : St n ds m a) {d : Option Nat} (v : Value) (hd : dstOk n d = true) : St n ds (fput m d v) (a.put d v) := by
 cases d with
 | none => exact h
 | some d =>
  have hlt : d < n := by simpa [dstOk, Nat.blt_eq] using hd
  refine ⟨by simp [Act.put, h.size], h.defers, fun i u hi => ?_⟩
  simp only [fput, fget] at hi
  simp only [Act.put]
  split at hi
  ·rename_i hb
   have hdi : d = i := Nat.eq_of_beq_eq_true hb
   subst hdi
   simp only [Option.some.injEq] at hi
   subst hi
   rw [Array.getElem?_setIfInBounds_self_of_lt (by rw [h.size]; exact hlt)]
  ·rename_i hb
   have hdi : d ≠ i := Nat.ne_of_beq_eq_false hb
   rw [Array.getElem?_setIfInBounds_ne hdi]
   exact h.get i u hi
def fkeep (m : Fm) : List Nat → Fm
 | [] => []
 | k :: ks => match fget m k with
  | some v => (k, v) :: fkeep m ks
  | none => fkeep m ks
theorem fkeep_get (m : Fm) : ∀ (ks : List Nat) (i : Nat) (v : Value), fget (fkeep m ks) i = some v → fget m i = some v
 | [], i, v, h => by simp [fkeep, fget] at h
 | k :: ks, i, v, h => by
  simp only [fkeep] at h
  split at h
  ·rename_i u hu
   simp only [fget] at h
   split at h
   ·rename_i hb
    have := Nat.eq_of_beq_eq_true hb
    subst this
    simp only [Option.some.injEq] at h
    subst h
    exact hu
   ·exact fkeep_get m ks i v h
  ·exact fkeep_get m ks i v h
theorem St.keep {n : Nat} {ds : List Deferred} {m : Fm} {a : Act} (h : St n ds m a) (ks : List Nat) : St n ds (fkeep m ks) a :=
 ⟨h.size, h.defers, fun i v hi => h.get i v (fkeep_get m ks i v hi)⟩
theorem St.keepTo {n : Nat} {ds : List Deferred} {m m' : Fm} {a : Act} (h : St n ds m a) (ks : List Nat) (hm : fkeep m ks = m') : St n ds m' a := hm ▸ h.keep ks
/-! ### what an operation yields without looking at the world -/
def closedV (P : Program) : Sem Next → Option Value
 | .pure (.value v) => some v
 | .program k => closedV P (k P)
 | _ => none
theorem closedV_run {P : Program} {s : Sem Next} {v : Value} (h : closedV P s = some v) (w : World) : s.run P w = .ok (.value v) w := by
 induction s with
 | pure a => cases a <;> simp [closedV] at h; subst h; rfl
 | program k ih => simp only [closedV] at h; simp only [Sem.run]; exact ih P h
 | _ => simp [closedV] at h
def closedB (P : Program) : Sem Bool → Option Bool
 | .pure b => some b
 | .program k => closedB P (k P)
 | _ => none
theorem closedB_run {P : Program} {s : Sem Bool} {v : Bool} (h : closedB P s = some v) (w : World) : s.run P w = .ok v w := by
 induction s with
 | pure a => simp [closedB] at h; subst h; rfl
 | program k ih => simp only [closedB] at h; simp only [Sem.run]; exact ih P h
 | _ => simp [closedB] at h
def closedN (P : Program) : Sem Nat → Option Nat
 | .pure b => some b
 | .program k => closedN P (k P)
 | _ => none
theorem closedN_run {P : Program} {s : Sem Nat} {v : Nat} (h : closedN P s = some v) (w : World) : s.run P w = .ok v w := by
 induction s with
 | pure a => simp [closedN] at h; subst h; rfl
 | program k ih => simp only [closedN] at h; simp only [Sem.run]; exact ih P h
 | _ => simp [closedN] at h
/-! ### the fences: everything is let in -/
structure Wide (F : Fence) : Prop where
 fn : ∀ f, F.fn f
 depth : F.depth = none
 alive : F.alive = false
theorem wide_wide : Wide Fence.wide := ⟨fun _ => trivial, rfl, rfl⟩
theorem ww : Wide Fence.wide := wide_wide
def opOk (o : Oper) : Bool := match o.op with
 | .select .. => false
 | .defer _ => false
 | _ => true
def known (m : Fm) : List Operand → Bool
 | [] => true
 | x :: xs => match fev m x with
  | some _ => known m xs
  | none => false
theorem known_eval {n : Nat} {ds : List Deferred} {m : Fm} {a : Act} (hS : St n ds m a) : ∀ (xs : List Operand), known m xs = true → ∀ x ∈ xs, a.eval x = fenv m x
 | [], _, x, hx => by cases hx
 | y :: ys, h, x, hx => by
  simp only [known] at h
  split at h
  ·rename_i v hv
   rcases List.mem_cons.1 hx with rfl | hx
   ·rw [hS.eval hv]; simp [fenv, hv]
   ·exact known_eval hS ys h x hx
  ·cases h
def opFine (m : Fm) (o : Oper) : Bool := match opOk o with
 | true => known m o.op.operands.toList
 | false => false
theorem sem_eq {n : Nat} {ds : List Deferred} {m : Fm} {a : Act} {o : Oper} (ro : Option Nat) (hS : St n ds m a) (h : opFine m o = true) : o.semAt ro a.eval = execOp (fenv m) o := by
 simp only [opFine] at h
 split at h
 ·rename_i hok
  rw [Oper.semAt_eq ro _ o (fun c hc => by simp [opOk, hc] at hok)]
  exact execOp_congr o (fun cs b hc => by simp [opOk, hc] at hok) (fun x hx => known_eval hS _ h x (by simpa using hx))
 ·cases h
section
variable {F : Fence} {P : Program} {ops : Array Oper} {Q : Exit → Act → World → Prop} {a : Act} {w : World} {n : Nat} {ds : List Deferred} {m : Fm}
theorem about_any (hW : Wide F) (o : Oper) (ρ : Operand → Value) (w : World) : ∀ f, o.about P w ρ = some f → F.fn f := fun f _ => hW.fn f
theorem depth_ok (hW : Wide F) {k : Nat} : F.depth.isSome = true → 1 ≤ k := by rw [hW.depth]; simp
theorem op_value {o : Oper} {next : Act → World → Prop} {v : Value} {w' : World} (hW : Wide F) (hS : St n ds m a) (hf : opFine m o = true)
  (hr : (execOp (fenv m) o).run P w = .ok (.value v) w') (h : next (a.put o.dst v) w') : o.wpIn F 0 P a w next Q :=
 ⟨about_any hW o _ w, by rw [sem_eq F.round hS hf, hr]; exact h⟩
theorem op_skip {o : Oper} {next : Act → World → Prop} {w' : World} (hW : Wide F) (hS : St n ds m a) (hf : opFine m o = true)
  (hr : (execOp (fenv m) o).run P w = .ok .skip w') (h : next (a.put o.dst undef) w') : o.wpIn F 0 P a w next Q :=
 ⟨about_any hW o _ w, by rw [sem_eq F.round hS hf, hr]; exact h⟩
theorem fenced_all (hW : Wide F) (m : Machine) : Machine.fenced P F m := fun g _ =>
 ⟨fun h => by simp [hW.alive] at h, .inl (hW.fn _), fun f _ => hW.fn f, fun d hd => by simp [hW.depth] at hd⟩
theorem calls_in (hW : Wide F) {k : Nat} {f : FuncId} {args : Array Value} {R : Ending → World → Prop} (h : Calls P f args w R) : CallsIn F k P f args w R :=
 ⟨hW.fn f, fun cs _ => by
  obtain ⟨e, w', fr, r, s, x⟩ := h cs
  refine ⟨e, w', fr, r, ?_, x⟩
  cases e with
  | returned v => exact (StepsIn.of_steps s).mono fun m _ => fenced_all hW m
  | panicked c => exact (StepsIn.of_steps s).mono fun m _ => fenced_all hW m
  | outgrown => exact s⟩
theorem calls_out (hW : Wide F) {k : Nat} {f : FuncId} {args : Array Value} {R : Ending → World → Prop} (h : CallsIn F k P f args w R) : Calls P f args w R := fun cs => by
 obtain ⟨e, w', fr, r, s, x⟩ := h.2 cs (fun d hd => by simp [hW.depth] at hd)
 exact ⟨e, w', fr, r, s.comes, x⟩
end
theorem round_in {F : Fence} {P : Program} {l : Nat} {f : FuncId} {tmps : Array Value} {as body : Code} {w : World} {R : Ending → World → Prop} (hW : Wide F) {k : Nat} (h : RoundIn Fence.wide 0 P l f tmps as body w R) :
  RoundIn F k P l f tmps as body w R :=
 ⟨hW.fn f, fun c cs _ => by
  obtain ⟨e, w', r, s⟩ := h.2 c cs (fun d hd => by simp [Fence.wide] at hd)
  refine ⟨e, w', r, ?_⟩
  cases e with
  | returned v => exact StepsIn.mono (fun m _ => fenced_all hW m) s
  | panicked c => exact StepsIn.mono (fun m _ => fenced_all hW m) s
  | outgrown => exact s⟩
/-! ### a stretch of operations that make no new world: reckoned by the kernel, what it leans on told in a list -/
inductive AllP : List Prop → Prop
 | nil : AllP []
 | cons {p : Prop} {ps : List Prop} : p → AllP ps → AllP (p :: ps)
theorem AllP.left : ∀ {ps qs : List Prop}, AllP (ps ++ qs) → AllP ps
 | [], _, _ => .nil
 | _ :: _, _, .cons h hs => .cons h (AllP.left hs)
theorem AllP.right : ∀ {ps qs : List Prop}, AllP (ps ++ qs) → AllP qs
 | [], _, h => h
 | _ :: ps, _, .cons _ hs => AllP.right (ps := ps) hs
inductive Cmd
 | p
 | as (v : Value)
 | ld (v : Value)
 | lds (vs : List Value)
 | run (v : Value)
 | no
def wants (ops : Array Oper) (m : Fm) (o : Oper) : Option Bool := match o.guard with
 | none => some true
 | some (j, want) => match ops[j]? with
  | some oj => match oj.dst with
   | some d => match fget m d with
    | some (.bool b) => some (match b, want with | true, true => true | false, false => true | _, _ => false)
    | some (.tuple _) => some false
    | _ => none
   | none => none
  | none => none
def cellPs (w : World) (A : Addr) : List Value → Nat → List Prop
 | [], _ => []
 | v :: vs, i => (w.cell? (A.add i) = some v) :: cellPs w A vs (i + 1)
def lenIs : List Value → Nat → Bool
 | [], 0 => true
 | _ :: l, k + 1 => lenIs l k
 | _, _ => false
theorem lenIs_spec : ∀ {l : List Value} {k : Nat}, lenIs l k = true → l.length = k
 | [], 0, _ => rfl
 | _ :: l, k + 1, h => by simp only [lenIs] at h; simp [lenIs_spec h]
 | [], k + 1, h => by simp [lenIs] at h
 | _ :: _, 0, h => by simp [lenIs] at h
def evC (P : Program) (w : World) (m : Fm) (o : Oper) : Cmd → Option (List Prop × Value)
 | .no => none
 | .p => match closedV P (execOp (fenv m) o) with
  | some v => some ([], v)
  | none => none
 | .as v => match closedV P (execOp (fenv m) o) with
  | some v' => some ([v' = v], v)
  | none => none
 | .ld v => match o.op with
  | .load t x => match closedB P (isAgg t), fev m x with
   | some false, some (.pointer (some A)) => some ([w.cell? A = some v], v)
   | _, _ => none
  | _ => none
 | .lds vs => match o.op with
  | .load t x => match closedB P (isAgg t), closedN P (sizeOf t), fev m x with
   | some true, some k, some (.pointer (some A)) => match lenIs vs k with
    | true => some (cellPs w A vs 0, .agg vs.toArray)
    | false => none
   | _, _, _ => none
  | _ => none
 | .run v => some ([(execOp (fenv m) o).run P w = .ok (.value v) w], v)
theorem cells_of_cellPs {w : World} {A : Addr} : ∀ (vs : List Value) (i : Nat), AllP (cellPs w A vs i) → ∀ j v, vs[j]? = some v → w.cell? (A.add (i + j)) = some v
 | [], i, _, j, v, h => by simp at h
 | u :: us, i, .cons h hs, 0, v, hv => by simp at hv; subst hv; exact h
 | u :: us, i, .cons h hs, j + 1, v, hv => by
  have := cells_of_cellPs us (i + 1) hs j v (by simpa using hv)
  rwa [show i + 1 + j = i + (j + 1) by omega] at this
theorem evC_run {P : Program} {w : World} {m : Fm} {o : Oper} {c : Cmd} {ps : List Prop} {v : Value} (h : evC P w m o c = some (ps, v)) (hp : AllP ps) :
  (execOp (fenv m) o).run P w = .ok (.value v) w := by
 cases c with
 | no => cases h
 | p =>
  simp only [evC] at h
  split at h
  ·rename_i u hu; simp only [Option.some.injEq, Prod.mk.injEq] at h; obtain ⟨rfl, rfl⟩ := h; exact closedV_run hu w
  ·cases h
 | «as» v' =>
  simp only [evC] at h
  split at h
  ·rename_i u hu; simp only [Option.some.injEq, Prod.mk.injEq] at h; obtain ⟨rfl, rfl⟩ := h
   cases hp with | cons h1 _ => subst h1; exact closedV_run hu w
  ·cases h
 | ld v' =>
  simp only [evC] at h
  split at h
  ·rename_i t x ho
   split at h
   ·rename_i A hb hx
    simp only [Option.some.injEq, Prod.mk.injEq] at h; obtain ⟨rfl, rfl⟩ := h
    cases hp with | cons h1 _ =>
    have hx' : fenv m x = .pointer (some A) := by simp [fenv, hx]
    simp [execOp, ho, Instr.loadAt, hx', Instr.sureAddr, loadVar, closedB_run hb w, h1]
   ·cases h
  ·cases h
 | lds vs =>
  simp only [evC] at h
  split at h
  ·rename_i t x ho
   split at h
   ·rename_i k A hb hk hx
    split at h
    ·rename_i hl
     simp only [Option.some.injEq, Prod.mk.injEq] at h; obtain ⟨rfl, rfl⟩ := h
     have hx' : fenv m x = .pointer (some A) := by simp [fenv, hx]
     have hlen := lenIs_spec hl
     have hc := run_loadCells_list (P := P) w A vs (fun j u hu => by simpa using cells_of_cellPs vs 0 hp j u hu)
     rw [hlen] at hc
     simp [execOp, ho, Instr.loadAt, hx', Instr.sureAddr, loadVar, closedB_run hb w, closedN_run hk w, hc]
    ·cases h
   ·cases h
  ·cases h
 | run v' =>
  simp only [evC, Option.some.injEq, Prod.mk.injEq] at h
  obtain ⟨rfl, rfl⟩ := h
  cases hp with | cons h1 _ => exact h1
def evSeg (P : Program) (w : World) (ops : Array Oper) (n : Nat) : List Cmd → Nat → Fm → Option (List Prop × Fm)
 | [], _, m => some ([], m)
 | c :: cs, i, m => match ops[i]? with
  | none => none
  | some o => match wants ops m o with
   | none => none
   | some false => match c with
    | .no => match dstOk n o.dst with
     | true => evSeg P w ops n cs (i + 1) (fput m o.dst undef)
     | false => none
    | _ => none
   | some true => match opFine m o with
    | false => none
    | true => match dstOk n o.dst with
     | false => none
     | true => match evC P w m o c with
      | none => none
      | some (ps, v) => match evSeg P w ops n cs (i + 1) (fput m o.dst v) with
       | none => none
       | some (qs, m') => some (ps ++ qs, m')
section
variable {F : Fence} {P : Program} {ops : Array Oper} {Q : Exit → Act → World → Prop} {a : Act} {w : World} {n : Nat} {ds : List Deferred} {m : Fm}
theorem wants_spec {o : Oper} {b : Bool} (hS : St n ds m a) (h : wants ops m o = some b) : Region.wanted o (yielded ops a.tmps) = b := by
 unfold wants at h
 unfold Region.wanted
 split at h
 ·rename_i hg; rw [hg]; simpa using h
 ·rename_i j want hg
  rw [hg]
  split at h
  ·rename_i oj hj
   split at h
   ·rename_i d hd
    split at h
    ·rename_i x hx
     have := hS.get d _ hx
     simp only [Option.some.injEq] at h
     subst h
     simp only [yielded, hj, Option.bind_some, hd, this]
     cases x <;> cases want <;> rfl
    ·rename_i vs hx
     have := hS.get d _ hx
     simp only [Option.some.injEq] at h
     subst h
     simp only [yielded, hj, Option.bind_some, hd, this]
     cases want <;> rfl
    ·cases h
   ·cases h
  ·cases h
theorem range'_succ (i r : Nat) : List.range' i (r + 1) = i :: List.range' (i + 1) r := rfl
theorem seg_aux (hW : Wide F) : ∀ (cs : List Cmd) (i r : Nat) (m m' : Fm) (ps : List Prop) (a : Act), evSeg P w ops n cs i m = some (ps, m') → AllP ps → St n ds m a →
  (∀ a', St n ds m' a' → wpOpsIn F 0 P ops Q (List.range' (i + cs.length) r) a' w) → wpOpsIn F 0 P ops Q (List.range' i (cs.length + r)) a w
 | [], i, r, m, m', ps, a, h, hp, hS, hk => by
  simp only [evSeg, Option.some.injEq, Prod.mk.injEq] at h
  obtain ⟨rfl, rfl⟩ := h
  simpa using hk a hS
 | c :: cs, i, r, m, m', ps, a, h, hp, hS, hk => by
  have hr : List.range' i ((c :: cs).length + r) = i :: List.range' (i + 1) (cs.length + r) := by
   rw [List.length_cons, show cs.length + 1 + r = (cs.length + r) + 1 by omega]; rfl
  have hk' : ∀ a', St n ds m' a' → wpOpsIn F 0 P ops Q (List.range' (i + 1 + cs.length) r) a' w := fun a' h' => by
   have := hk a' h'; rwa [List.length_cons, show i + (cs.length + 1) = i + 1 + cs.length by omega] at this
  rw [hr]
  simp only [evSeg] at h
  split at h
  ·cases h
  ·rename_i o ho
   split at h
   ·cases h
   ·rename_i hw
    have hwant := wants_spec (a := a) hS hw
    split at h
    ·split at h
     ·rename_i hd
      have ih := seg_aux hW cs (i + 1) r _ m' ps (a.put o.dst undef) h hp (hS.put undef hd) hk'
      simp only [wpOpsIn, ho, hwant]
      exact ⟨about_any hW o _ w, ih⟩
     ·cases h
    ·cases h
   ·rename_i hw
    have hwant := wants_spec (a := a) hS hw
    split at h
    ·cases h
    ·rename_i hf
     split at h
     ·cases h
     ·rename_i hd
      split at h
      ·cases h
      ·rename_i qs v hev
       split at h
       ·cases h
       ·rename_i rs m1 hseg
        simp only [Option.some.injEq, Prod.mk.injEq] at h
        obtain ⟨rfl, rfl⟩ := h
        have ih := seg_aux hW cs (i + 1) r _ _ rs (a.put o.dst v) hseg hp.right (hS.put v hd) hk'
        simp only [wpOpsIn, ho, hwant, if_true]
        exact op_value hW hS hf (evC_run hev hp.left) ih
def evSegK (P : Program) (w : World) (ops : Array Oper) (n : Nat) (cs : List Cmd) (i : Nat) (m : Fm) (ks : List Nat) : Option (List Prop × Fm) :=
 match evSeg P w ops n cs i m with
 | some (ps, m') => some (ps, fkeep m' ks)
 | none => none
theorem seg (hW : Wide F) (cs : List Cmd) (ks : List Nat) (ps : List Prop) (m' : Fm) (j r : Nat) {i R : Nat} (hS : St n ds m a)
  (h : evSegK P w ops n cs i m ks = some (ps, m')) (hj : i + cs.length = j) (hR : cs.length + r = R) (hp : AllP ps)
  (hk : ∀ a', St n ds m' a' → wpOpsIn F 0 P ops Q (List.range' j r) a' w) : wpOpsIn F 0 P ops Q (List.range' i R) a w := by
 subst hj hR
 unfold evSegK at h
 split at h
 ·rename_i qs m1 hseg
  simp only [Option.some.injEq, Prod.mk.injEq] at h
  obtain ⟨rfl, rfl⟩ := h
  exact seg_aux hW cs i r m m1 qs a hseg hp hS (fun a' h' => hk a' (h'.keep ks))
 ·cases h
theorem seg_end {i : Nat} (h : Q .normal a w) : wpOpsIn F 0 P ops Q (List.range' i 0) a w := h
theorem region {id : Nat} (R : Nat) (hR : ops.size = R) (h : wpOpsIn F 0 P ops Q (List.range' 0 R) a w) : (Code.region id ops false).wpIn F 0 P Q a w :=
 wpIn_region (by rw [List.range_eq_range', hR]; exact h)
/-! the same, shorter to call -/
theorem sg (hW : Wide F) (cs : List Cmd) (ps : List Prop) (m' : Fm) (j r : Nat) {i R : Nat} (hS : St n ds m a) (hp : AllP ps)
  (hk : ∀ a', St n ds m' a' → wpOpsIn F 0 P ops Q (List.range' j r) a' w) (h : evSegK P w ops n cs i m (m'.map Prod.fst) = some (ps, m') := by kernel_rfl)
  (hj : i + cs.length = j := by kernel_rfl) (hR : cs.length + r = R := by kernel_rfl) : wpOpsIn F 0 P ops Q (List.range' i R) a w :=
 seg hW cs _ ps m' j r hS h hj hR hp hk
theorem rgn {id : Nat} (R : Nat) (h : wpOpsIn F 0 P ops Q (List.range' 0 R) a w) (hR : ops.size = R := by kernel_rfl) : (Code.region id ops false).wpIn F 0 P Q a w :=
 region R hR h
theorem St.kp {n : Nat} {ds : List Deferred} {m : Fm} {a : Act} (h : St n ds m a) (m' : Fm) (hm : fkeep m (m'.map Prod.fst) = m' := by kernel_rfl) : St n ds m' a := hm ▸ h.keep _
theorem sq {x y : Code} (h : ∀ K : Act → World → Prop, (∀ a w, y.wpIn F 0 P Q a w → K a w) → x.wpIn F 0 P (Exit.then K Q) a w) : (Code.seq x y).wpIn F 0 P Q a w :=
 wpIn_seq_k h
def fdel : Fm → List Nat → Fm
 | [], _ => []
 | (k, v) :: m, ks => match ks.any (Nat.beq k) with
  | true => fdel m ks
  | false => (k, v) :: fdel m ks
def fup (m dl : Fm) (dr : List Nat) : Fm := dl ++ fdel m (dl.map Prod.fst ++ dr)
theorem sd (hW : Wide F) (cs : List Cmd) (ps : List Prop) (dl : Fm) (dr : List Nat) (j r : Nat) {i R : Nat} (hS : St n ds m a) (hp : AllP ps)
  (hk : ∀ a', St n ds (fup m dl dr) a' → wpOpsIn F 0 P ops Q (List.range' j r) a' w) (h : evSegK P w ops n cs i m ((fup m dl dr).map Prod.fst) = some (ps, fup m dl dr) := by kernel_rfl)
  (hj : i + cs.length = j := by kernel_rfl) (hR : cs.length + r = R := by kernel_rfl) : wpOpsIn F 0 P ops Q (List.range' i R) a w :=
 seg hW cs _ ps _ j r hS h hj hR hp hk
def finit : List Value → Nat → Fm
 | [], _ => []
 | v :: vs, i => (i, v) :: finit vs (i + 1)
theorem finit_get : ∀ (vs : List Value) (i j : Nat) (v : Value), fget (finit vs i) j = some v → i ≤ j ∧ vs[j - i]? = some v
 | [], i, j, v, h => by simp [finit, fget] at h
 | u :: us, i, j, v, h => by
  simp only [finit, fget] at h
  split at h
  ·rename_i hb
   have := Nat.eq_of_beq_eq_true hb
   subst this
   simp only [Option.some.injEq] at h
   subst h
   exact ⟨Nat.le_refl _, by simp⟩
  ·obtain ⟨h1, h2⟩ := finit_get us (i + 1) j v h
   refine ⟨by omega, ?_⟩
   rw [show j - i = (j - (i + 1)) + 1 by omega]
   simpa using h2
theorem init_st {args : Array Value} (hn : args.size ≤ n) : St n [] (finit args.toList 0) { tmps := args ++ Array.replicate (n - args.size) undef, defers := [] } := by
 refine ⟨by simp; omega, rfl, fun i v h => ?_⟩
 obtain ⟨_, h2⟩ := finit_get _ _ _ _ h
 simp only [Nat.sub_zero, Array.getElem?_toList] at h2
 rw [Array.getElem?_append_left (Array.getElem?_eq_some_iff.1 h2).1]
 exact h2
theorem calls_body {f : FuncId} {fn : Func} {c : Code} {args : Array Value} {R : Ending → World → Prop} (n : Nat) (m : Fm)
  (hf : P.funcs[f]? = some fn) (hb : fn.body = some c) (hn : fn.ntmps = n) (ha : Nat.ble args.size n = true) (hm : finit args.toList 0 = m)
  (h : ∀ a, St n [] m a → c.wpIn Fence.wide 0 P (bodyPost P fn R) a w) : Calls P f args w R := by
 subst hm
 refine calls_out (k := 0) wide_wide (callsIn_of_wp hf hb trivial ?_)
 rw [hn]
 exact h _ (init_st (Nat.le_of_ble_eq_true ha))
theorem St.getD {t : Nat} {v : Value} (hS : St n ds m a) (h : fget m t = some v) : a.tmps.getD t undef = v := hS.eval (x := .tmp t) h
theorem ret1 {fn : Func} {R : Ending → World → Prop} {t : Nat} {v : Value} (hS : St n [] m a) (hr : fn.results = #[.tmp t]) (ht : fget m t = some v) (hR : R (.returned v) w) : bodyPost P fn R .ret a w :=
 ⟨hS.defers, v, by rw [results_tmp hr, hS.getD ht], hR⟩
theorem ret2 {fn : Func} {R : Ending → World → Prop} {t u : Nat} {v x : Value} (hS : St n [] m a) (hr : fn.results = #[.tmp t, .tmp u]) (ht : fget m t = some v) (hu : fget m u = some x)
  (hR : R (.returned (.tuple #[v, x])) w) : bodyPost P fn R .ret a w :=
 ⟨hS.defers, _, by rw [results_tmp2 hr, hS.getD ht, hS.getD hu], hR⟩
/-! ### the forms of code -/
theorem cond_t {c : Operand} {x y : Code} (hS : St n ds m a) (hc : fev m c = some (.bool true)) (h : x.wpIn F 0 P Q a w) : (Code.cond c x y).wpIn F 0 P Q a w :=
 wpIn_cond_true (hS.eval hc) h
theorem cond_f {c : Operand} {x y : Code} (hS : St n ds m a) (hc : fev m c = some (.bool false)) (h : y.wpIn F 0 P Q a w) : (Code.cond c x y).wpIn F 0 P Q a w :=
 wpIn_cond_false (hS.eval hc) h
theorem cond_b {c : Operand} {x y : Code} {b : Bool} (hS : St n ds m a) (hc : fev m c = some (.bool b)) (h : b = true → x.wpIn F 0 P Q a w) (h' : b = false → y.wpIn F 0 P Q a w) : (Code.cond c x y).wpIn F 0 P Q a w :=
 wpIn_cond_split (hS.eval hc) h h'
theorem loop_ghost {c : Code} {G : Type} (I : G → Act → World → Prop) (μ : G → Nat) (g₀ : G) (h₀ : I g₀ a w)
  (round : ∀ g a w, I g a w → c.wpIn F 0 P (Exit.then (fun a' w' => ∃ g', I g' a' w' ∧ μ g' < μ g) Q) a w) : (Code.loop c).wpIn F 0 P Q a w := by
 intro b k cs hro hb hr
 have key : ∀ j g a w, μ g = j → I g a w →
   ∃ e a' w', Q e a' w' ∧ ArrivesIn (Machine.fenced P F) P (lone (b.atR a (.code c :: .inLoop c :: k)) cs w) b k cs e a' w' := by
  intro j
  induction j using Nat.strongRecOn with
  | _ j ih =>
   intro g a w hn hI
   obtain ⟨e, a₁, w₁, hq, harr⟩ := round g a w hI b (.inLoop c :: k) cs hro hb hr
   cases e with
   | normal =>
    obtain ⟨g₁, hI₁, hlt⟩ := hq
    obtain ⟨e₂, a₂, w₂, hq₂, harr₂⟩ := ih (μ g₁) (hn ▸ hlt) g₁ a₁ w₁ rfl hI₁
    exact ⟨e₂, a₂, w₂, hq₂, .of_steps (StepsIn.trans harr (.one (fenced_calm hb hr rfl) stepR_inLoop)) harr₂⟩
   | exit id => exact ⟨_, a₁, w₁, hq, .pass (x := .inLoop c) rfl (fun _ _ => .inl (by simp)) harr⟩
   | goto l => exact ⟨_, a₁, w₁, hq, .pass (x := .inLoop c) rfl (fun _ _ => .inl (by simp)) harr⟩
   | ret => exact ⟨_, a₁, w₁, hq, .pass (x := .inLoop c) rfl (fun _ _ => .inl (by simp)) harr⟩
   | panic ch => exact ⟨_, a₁, w₁, hq, .pass (x := .inLoop c) rfl (fun _ _ => .inl (by simp)) harr⟩
   | outgrown => exact ⟨_, a₁, w₁, hq, .pass (x := .inLoop c) rfl (fun _ _ => .inl (by simp)) harr⟩
 obtain ⟨e, a', w', hq, harr⟩ := key _ g₀ a w rfl h₀
 exact ⟨e, a', w', hq, .of_steps (.one (fenced_calm hb hr rfl) stepR_loop) harr⟩
end
/-! ### blocks, and what of an elder world stands -/
def Blk (w : World) (b : Nat) (T : TypeId) (cs : Array Value) : Prop := w.heap[b]? = some (.cells cs T (0, 0))
structure Ext (M : List Nat) (w w' : World) : Prop where
 os : w'.os = w.os
 tape : w'.tape = w.tape
 output : w'.output = w.output
 size : w.heap.size ≤ w'.heap.size
 keep : ∀ b, b < w.heap.size → b ∉ M → w'.heap[b]? = w.heap[b]?
def upd (w : World) (b : Nat) (T : TypeId) (cs : Array Value) : World := { w with heap := w.heap.setIfInBounds b (.cells cs T (0, 0)) }
section
variable {w w' w0 : World} {b b' : Nat} {T T' : TypeId} {cs cs' : Array Value} {M M' : List Nat}
theorem Blk.lt (h : Blk w b T cs) : b < w.heap.size := (Array.getElem?_eq_some_iff.1 h).1
theorem Blk.cell (h : Blk w b T cs) (i : Nat) {v : Value} (hv : cs[i]? = some v) : w.cell? ⟨b, i, none⟩ = some v := by
 simp only [World.cell?, show w.heap[b]? = _ from h]; simpa using hv
theorem Blk.frozen (h : Blk w b T cs) (i : Nat) : w.frozen? ⟨b, i, none⟩ = false := by
 simp [World.frozen?, show w.heap[b]? = _ from h]
theorem Blk.ne_type (h : Blk w b T cs) (h' : Blk w b' T' cs') (hT : T ≠ T') : b ≠ b' := fun e => by
 subst e
 have := (show w.heap[b]? = _ from h).symm.trans h'
 simp at this
 exact hT this.2
theorem Blk.same (h : Blk w b T cs) (h' : Blk w b T' cs') : T = T' ∧ cs = cs' := by
 have := (show w.heap[b]? = _ from h).symm.trans h'
 simp at this
 exact ⟨this.2, this.1⟩
theorem Blk.alloc (h : Blk w b T cs) (o : Obj) : Blk (w.alloc o) b T cs := (RowKit.Below.heap_alloc w o b h.lt).trans h
theorem Blk.new (w : World) (T : TypeId) (cs : Array Value) : Blk (w.alloc (.cells cs T)) w.heap.size T cs := World.alloc_heap_new w _
theorem Blk.new' {nb : Nat} (w : World) (T : TypeId) (cs : Array Value) (h : w.heap.size = nb) : Blk (w.alloc (.cells cs T)) nb T cs := h ▸ Blk.new w T cs
theorem Blk.upd (h : Blk w b T cs) (T' : TypeId) (cs' : Array Value) : Blk (Vc.upd w b T' cs') b T' cs' := by
 simp [Blk, Vc.upd, h.lt]
theorem Blk.updNe (h : Blk w b T cs) (hne : b' ≠ b) (T' : TypeId) (cs' : Array Value) : Blk (Vc.upd w b' T' cs') b T cs := by
 simp only [Blk, Vc.upd]; rw [Array.getElem?_setIfInBounds_ne hne]; exact h
theorem Blk.ext (h : Blk w b T cs) (hE : Ext M w w') (hM : b ∉ M) : Blk w' b T cs := (hE.keep b h.lt hM).trans h
theorem Blk.at' (he : w' = w) (h : Blk w b T cs) : Blk w' b T cs := he ▸ h
theorem Blk.drew (h : Blk w b T cs) : Blk w.drew b T cs := h
theorem Ext.refl (M : List Nat) (w : World) : Ext M w w := ⟨rfl, rfl, rfl, Nat.le_refl _, fun _ _ _ => rfl⟩
theorem Ext.trans (h : Ext M w0 w) (h' : Ext M' w w') (hM : ∀ b ∈ M', b ∈ M ∨ w0.heap.size ≤ b) : Ext M w0 w' :=
 ⟨h'.os.trans h.os, h'.tape.trans h.tape, h'.output.trans h.output, Nat.le_trans h.size h'.size, fun b hb hn =>
  (h'.keep b (Nat.lt_of_lt_of_le hb h.size) (fun hm => by rcases hM b hm with h1 | h1; exact hn h1; omega)).trans (h.keep b hb hn)⟩
theorem Ext.trans0 (h : Ext M w0 w) (h' : Ext [] w w') : Ext M w0 w' := h.trans h' (fun b hb => by cases hb)
theorem Ext.mono (h : Ext M w w') (hM : ∀ b ∈ M, b ∈ M') : Ext M' w w' := ⟨h.os, h.tape, h.output, h.size, fun b hb hn => h.keep b hb (fun hm => hn (hM b hm))⟩
theorem Ext.drew (h : Ext M w0 w) : Ext M w0 w.drew := ⟨h.os, h.tape, h.output, h.size, h.keep⟩
theorem Ext.alloc (h : Ext M w0 w) (o : Obj) : Ext M w0 (w.alloc o) :=
 h.trans0 ⟨rfl, rfl, rfl, by simp, fun b hb _ => RowKit.Below.heap_alloc w o b hb⟩
theorem Ext.updIn (h : Ext M w0 w) (hb : b ∈ M ∨ w0.heap.size ≤ b) (T : TypeId) (cs : Array Value) : Ext M w0 (Vc.upd w b T cs) :=
 ⟨h.os, h.tape, h.output, by simpa [Vc.upd] using h.size, fun k hk hn => by
  have hne : b ≠ k := fun e => by subst e; rcases hb with h1 | h1; exact hn h1; omega
  simp only [Vc.upd]; rw [Array.getElem?_setIfInBounds_ne hne]; exact h.keep k hk hn⟩
theorem Ext.below (h : Ext [] w w') : RowKit.Below w.heap.size w w' := ⟨h.os, h.tape, h.output, h.size, fun k hk => h.keep k hk (fun hm => by cases hm)⟩
theorem upd_size : (Vc.upd w b T cs).heap.size = w.heap.size := by simp [Vc.upd]
/-! stores -/
def setAt (cs : Array Value) (off : Nat) : List Value → Array Value
 | [] => cs
 | v :: vs => setAt (cs.setIfInBounds off v) (off + 1) vs
theorem setAt_size : ∀ (vs : List Value) (cs : Array Value) (off : Nat), (setAt cs off vs).size = cs.size
 | [], _, _ => rfl
 | v :: vs, cs, off => by simp [setAt, setAt_size vs]
theorem setCell_upd (h : Blk w b T cs) (i : Nat) (v : Value) : w.setCell ⟨b, i, none⟩ v = Vc.upd w b T (cs.setIfInBounds i v) := by
 have h' : w.heap[b]? = some (.cells cs T (0, 0)) := h
 simp only [World.setCell, Vc.upd]
 congr 1
 apply Array.ext_getElem?
 intro k
 by_cases hk : b = k
 ·subst hk; rw [Array.getElem?_modify, if_pos rfl, h', Array.getElem?_setIfInBounds_self_of_lt h.lt]; rfl
 ·rw [Array.getElem?_modify, if_neg hk, Array.getElem?_setIfInBounds_ne hk]
def oneAll : List Value → Bool
 | [] => true
 | v :: vs => match v.oneCell' with
  | true => oneAll vs
  | false => false
theorem run_storeCells_blk (P : Program) : ∀ (vs : List Value) (w : World) (cs : Array Value) (off i : Nat), Blk w b T cs → oneAll vs = true → off + i + vs.length ≤ cs.size →
  (storeCells ⟨b, off, none⟩ vs i).run P w = .ok () (Vc.upd w b T (setAt cs (off + i) vs))
 | [], w, cs, off, i, h, _, _ => by
  have h' : w.heap[b]? = some (.cells cs T (0, 0)) := h
  simp only [storeCells, setAt, Sem.run_pure]
  congr 1
  have : Vc.upd w b T cs = w := by
   simp only [Vc.upd]
   have : w.heap.setIfInBounds b (.cells cs T (0, 0)) = w.heap := by
    apply Array.ext_getElem?
    intro k
    by_cases hk : b = k
    ·subst hk; rw [Array.getElem?_setIfInBounds_self_of_lt h.lt, h']
    ·rw [Array.getElem?_setIfInBounds_ne hk]
   rw [this]
  exact this.symm
 | v :: vs, w, cs, off, i, h, h1, hle => by
  simp only [oneAll] at h1
  split at h1
  ·rename_i hv
   simp only [List.length_cons] at hle
   have hlt : off + i < cs.size := by omega
   have hadd : (⟨b, off, none⟩ : Addr).add i = ⟨b, off + i, none⟩ := by
    unfold Addr.add; split
    ·rename_i h0; subst h0; rfl
    ·rfl
   have hc : w.cell? ⟨b, off + i, none⟩ = some cs[off + i] := h.cell _ (Array.getElem?_eq_getElem hlt)
   have hf := h.frozen (off + i)
   have ih := run_storeCells_blk P vs (Vc.upd w b T (cs.setIfInBounds (off + i) v)) (cs.setIfInBounds (off + i) v) off (i + 1) (h.upd _ _) h1 (by simp; omega)
   simp only [storeCells, Sem.run_bind, hadd, run_store P w _ v _ hv, hc, hf, Bool.false_eq_true, if_false, Result.andThen_ok, setCell_upd h, ih]
   congr 1
   simp [Vc.upd, setAt, Nat.add_assoc]
  ·cases h1
theorem run_storeVar_blk (P : Program) {t : TypeId} {v : Value} {off : Nat} (h : Blk w b T cs) (hs : closedN P (sizeOf t) = some v.cells.size) (h1 : oneAll v.cells.toList = true) (hle : off + v.cells.size ≤ cs.size) :
  (storeVar t ⟨b, off, none⟩ v).run P w = .ok () (Vc.upd w b T (setAt cs off v.cells.toList)) := by
 have := run_storeCells_blk P v.cells.toList w cs off 0 h h1 (by simpa using hle)
 simp [storeVar, closedN_run hs w, this]
end
/-! ### operations that turn the world -/
def effOf (ops : Array Oper) (n : Nat) (m : Fm) (i : Nat) : Option Oper := match ops[i]? with
 | some o => match wants ops m o with
  | some true => match opFine m o with
   | true => match dstOk n o.dst with
    | true => some o
    | false => none
   | false => none
  | _ => none
 | none => none
def closedZ (P : Program) : Sem Value → Option Value
 | .pure v => some v
 | .program k => closedZ P (k P)
 | _ => none
theorem closedZ_run {P : Program} {s : Sem Value} {v : Value} (h : closedZ P s = some v) (w : World) : s.run P w = .ok v w := by
 induction s with
 | pure a => simp [closedZ] at h; subst h; rfl
 | program k ih => simp only [closedZ] at h; simp only [Sem.run]; exact ih P h
 | _ => simp [closedZ] at h
def boxOf (P : Program) (ops : Array Oper) (n : Nat) (m : Fm) (i : Nat) : Option (Array Value × TypeId × Option Nat) := match effOf ops n m i with
 | some o => match o.op with
  | .box T x => match fev m x with
   | some v => some (v.cells, T, o.dst)
   | none => none
  | .alloc T => match closedZ P (zeroValue T) with
   | some z => some (z.cells, T, o.dst)
   | none => none
  | _ => none
 | none => none
def storeOf (P : Program) (ops : Array Oper) (n : Nat) (m : Fm) (i : Nat) : Option (Nat × Nat × List Value) := match effOf ops n m i with
 | some o => match o.op, o.dst with
  | .store t x y, none => match fev m x, fev m y, closedN P (sizeOf t) with
   | some (.pointer (some ⟨b, off, none⟩)), some v, some k => match lenIs v.cells.toList k with
    | true => match oneAll v.cells.toList with
     | true => some (b, off, v.cells.toList)
     | false => none
    | false => none
   | _, _, _ => none
  | _, _ => none
 | none => none
def evs (m : Fm) : List Operand → Option (List Value)
 | [] => some []
 | x :: xs => match fev m x with
  | some v => match evs m xs with
   | some vs => some (v :: vs)
   | none => none
  | none => none
def callOf (ops : Array Oper) (n : Nat) (m : Fm) (i : Nat) : Option (Fn × List Value × Array Value × Option Nat) := match effOf ops n m i with
 | some o => match o.op with
  | .call c => match c.callee with
   | .value f => match fev m f, evs m c.args.toList with
    | some (.func fn first cap), some vs => some (fn, first.toList ++ vs, cap, o.dst)
    | _, _ => none
   | _ => none
  | _ => none
 | none => none
def runOf (ops : Array Oper) (n : Nat) (m : Fm) (i : Nat) : Option (Sem Next × Option Nat) := match effOf ops n m i with
 | some o => some (execOp (fenv m) o, o.dst)
 | none => none
theorem evs_map {n : Nat} {ds : List Deferred} {m : Fm} {a : Act} (hS : St n ds m a) : ∀ (xs : List Operand) (vs : List Value), evs m xs = some vs → xs.map a.eval = vs
 | [], vs, h => by simp [evs] at h; subst h; rfl
 | x :: xs, vs, h => by
  simp only [evs] at h
  split at h
  ·rename_i v hv
   split at h
   ·rename_i us hu
    simp only [Option.some.injEq] at h
    subst h
    simp [hS.eval hv, evs_map hS xs us hu]
   ·cases h
  ·cases h
section
variable {F : Fence} {P : Program} {ops : Array Oper} {Q : Exit → Act → World → Prop} {a : Act} {w : World} {n : Nat} {ds : List Deferred} {m : Fm}
theorem effOf_spec {i : Nat} {o : Oper} (h : effOf ops n m i = some o) : ops[i]? = some o ∧ wants ops m o = some true ∧ opFine m o = true ∧ dstOk n o.dst = true := by
 unfold effOf at h
 split at h
 ·rename_i o' ho
  split at h
  ·rename_i hw
   split at h
   ·rename_i hf
    split at h
    ·rename_i hd; simp only [Option.some.injEq] at h; subst h; exact ⟨ho, hw, hf, hd⟩
    ·cases h
   ·cases h
  ·cases h
 ·cases h
theorem eff_run (hW : Wide F) {i r : Nat} {s : Sem Next} {d : Option Nat} {v : Value} {w' : World} (hS : St n ds m a) (ho : runOf ops n m i = some (s, d)) (hr : s.run P w = .ok (.value v) w')
  (hk : ∀ a', St n ds (fput m d v) a' → wpOpsIn F 0 P ops Q (List.range' (i + 1) r) a' w') : wpOpsIn F 0 P ops Q (List.range' i (r + 1)) a w := by
 unfold runOf at ho
 split at ho
 ·rename_i o he
  simp only [Option.some.injEq, Prod.mk.injEq] at ho
  obtain ⟨rfl, rfl⟩ := ho
  obtain ⟨h1, h2, h3, h4⟩ := effOf_spec he
  rw [range'_succ]
  simp only [wpOpsIn, h1, wants_spec (a := a) hS h2, if_true]
  exact op_value hW hS h3 hr (hk _ (hS.put v h4))
 ·cases ho
theorem eff_box (hW : Wide F) {i r : Nat} {cs : Array Value} {T : TypeId} {d : Option Nat} (hS : St n ds m a) (ho : boxOf P ops n m i = some (cs, T, d))
  (hk : ∀ a' w', w' = w.alloc (.cells cs T) → St n ds (fput m d (.pointer (some ⟨w.heap.size, 0, none⟩))) a' → wpOpsIn F 0 P ops Q (List.range' (i + 1) r) a' w') :
  wpOpsIn F 0 P ops Q (List.range' i (r + 1)) a w := by
 unfold boxOf at ho
 split at ho
 ·rename_i o he
  obtain ⟨h1, h2, h3, h4⟩ := effOf_spec he
  split at ho
  ·rename_i T' x hop
   split at ho
   ·rename_i v hv
    simp only [Option.some.injEq, Prod.mk.injEq] at ho
    obtain ⟨rfl, rfl, rfl⟩ := ho
    rw [range'_succ]
    simp only [wpOpsIn, h1, wants_spec (a := a) hS h2, if_true]
    refine op_value hW hS h3 (v := .pointer (some ⟨w.heap.size, 0, none⟩)) (w' := w.alloc (.cells v.cells T')) ?_ (hk _ _ rfl (hS.put _ h4))
    simp [execOp, hop, Instr.box, newVar, newRow, fenv, hv]
   ·cases ho
  ·rename_i T' hop
   split at ho
   ·rename_i z hz
    simp only [Option.some.injEq, Prod.mk.injEq] at ho
    obtain ⟨rfl, rfl, rfl⟩ := ho
    rw [range'_succ]
    simp only [wpOpsIn, h1, wants_spec (a := a) hS h2, if_true]
    refine op_value hW hS h3 (v := .pointer (some ⟨w.heap.size, 0, none⟩)) (w' := w.alloc (.cells z.cells T')) ?_ (hk _ _ rfl (hS.put _ h4))
    simp [execOp, hop, Instr.alloc, newVar, newRow, closedZ_run hz w]
   ·cases ho
  ·cases ho
 ·cases ho
theorem eff_store (hW : Wide F) {i r : Nat} {b off : Nat} {vs : List Value} {T : TypeId} {cs : Array Value} (hS : St n ds m a) (ho : storeOf P ops n m i = some (b, off, vs)) (hB : Blk w b T cs)
  (hle : off + vs.length ≤ cs.size)
  (hk : ∀ a' w', w' = upd w b T (setAt cs off vs) → St n ds m a' → wpOpsIn F 0 P ops Q (List.range' (i + 1) r) a' w') :
  wpOpsIn F 0 P ops Q (List.range' i (r + 1)) a w := by
 unfold storeOf at ho
 split at ho
 ·rename_i o he
  obtain ⟨h1, h2, h3, h4⟩ := effOf_spec he
  split at ho
  ·rename_i t x y hop hdst
   split at ho
   ·rename_i b' off' v k hx hy hk'
    split at ho
    ·rename_i hl
     split at ho
     ·rename_i h1'
      simp only [Option.some.injEq, Prod.mk.injEq] at ho
      obtain ⟨rfl, rfl, rfl⟩ := ho
      have hlen : v.cells.size = k := by simpa using lenIs_spec hl
      rw [range'_succ]
      simp only [wpOpsIn, h1, wants_spec (a := a) hS h2, if_true]
      have hst := hS.put undef h4
      rw [hdst] at hst
      refine op_skip hW hS h3 (w' := upd w b' T (setAt cs off' v.cells.toList)) ?_ (by rw [hdst]; exact hk _ _ rfl hst)
      have hrun := run_storeVar_blk P (t := t) (v := v) (off := off') hB (by rw [hk', hlen]) h1' (by simpa using hle)
      simp [execOp, hop, Instr.storeAt, Instr.sureAddr, fenv, hx, hy, hrun]
     ·cases ho
    ·cases ho
   ·cases ho
  ·cases ho
 ·cases ho
theorem eff_call (hW : Wide F) {i r : Nat} {f : FuncId} {vs : List Value} {cap : Array Value} {d : Option Nat} {R : Ending → World → Prop} (hS : St n ds m a)
  (ho : callOf ops n m i = some (.func f, vs, cap, d)) (hc : ∀ args w, (callFunc f args).run P w = .ok (.enter f args) w) (args : Array Value) (hargs : (vs ++ cap.toList).toArray = args)
  (hC : Calls P f args w R)
  (hk : ∀ e w', R e w' → ∃ v, e = .returned v ∧ ∀ a', St n ds (fput m d v) a' → wpOpsIn F 0 P ops Q (List.range' (i + 1) r) a' w') :
  wpOpsIn F 0 P ops Q (List.range' i (r + 1)) a w := by
 unfold callOf at ho
 split at ho
 ·rename_i o he
  obtain ⟨h1, h2, h3, h4⟩ := effOf_spec he
  split at ho
  ·rename_i c hop
   split at ho
   ·rename_i f' hcal
    split at ho
    ·rename_i fn first cap' us hf hus
     simp only [Option.some.injEq, Prod.mk.injEq] at ho
     obtain ⟨rfl, rfl, rfl, rfl⟩ := ho
     rw [range'_succ]
     simp only [wpOpsIn, h1, wants_spec (a := a) hS h2, if_true]
     refine ⟨about_any hW o _ w, ?_⟩
     have hev : a.eval f' = .func (.func f) first cap' := hS.eval hf
     have hmap : c.args.map a.eval = us.toArray := by
      rw [← evs_map hS _ _ hus]; apply Array.ext'; simp
     have hrun : (o.semAt F.round a.eval).run P w = .ok (.enter f args) w := by
      rw [Oper.semAt_eq _ _ _ (fun c' hc' => by rw [hop] at hc'; cases hc')]
      have hargs' : (first ++ us.toArray) ++ cap' = args := by rw [← hargs]; simp
      simp only [execOp, hop, resolve, hcal, hev, hmap, Deferred.ofValue, invoke, Sem.run_bind, Sem.run_pure, Result.andThen_ok, hargs', hc]
     rw [hrun]
     refine ⟨depth_ok hW, calls_in hW (hC.mono fun e w' he => ?_)⟩
     obtain ⟨v, rfl, hv⟩ := hk e w' he
     exact hv _ (hS.put v h4)
    ·cases ho
   ·cases ho
  ·cases ho
 ·cases ho
end
/-! ### an operation that turns the world, told alone -/
def Upon (P : Program) (o : Oper) (m : Fm) (w : World) (Post : Value → World → Prop) : Prop :=
 (∃ v w', (execOp (fenv m) o).run P w = .ok (.value v) w' ∧ Post v w') ∨
 (∃ w', (execOp (fenv m) o).run P w = .ok .skip w' ∧ Post undef w') ∨
 (∃ f args w1, (execOp (fenv m) o).run P w = .ok (.enter f args) w1 ∧ Calls P f args w1 fun e w' => ∃ v, e = .returned v ∧ Post v w') ∨
 (∃ l f tmps as body w1, (execOp (fenv m) o).run P w = .ok (.round l f tmps as body) w1 ∧ RoundIn Fence.wide 0 P l f tmps as body w1 fun e w' => ∃ v, e = .returned v ∧ Post v w')
section
variable {F : Fence} {P : Program} {ops : Array Oper} {Q : Exit → Act → World → Prop} {a : Act} {w : World} {n : Nat} {ds : List Deferred} {m : Fm}
theorem upon_wp {o : Oper} {Post : Value → World → Prop} {K : Act → World → Prop} (hW : Wide F) (h : Upon P o m w Post)
  (hs : o.semAt F.round a.eval = execOp (fenv m) o) (hk : ∀ v w', Post v w' → K (a.put o.dst v) w') : o.wpIn F 0 P a w K Q := by
 refine ⟨about_any hW o _ w, ?_⟩
 rw [hs]
 rcases h with ⟨v, w', hr, hp⟩ | ⟨w', hr, hp⟩ | ⟨f, args, w1, hr, hc⟩ | ⟨l, f, tmps, as', body, w1, hr, hc⟩
 ·rw [hr]; exact hk _ _ hp
 ·rw [hr]; exact hk _ _ hp
 ·rw [hr]
  refine ⟨depth_ok hW, calls_in hW (hc.mono fun e w' he => ?_)⟩
  obtain ⟨v, rfl, hp⟩ := he
  exact hk _ _ hp
 ·rw [hr]
  refine ⟨depth_ok hW, round_in hW (hc.mono fun e w' he => ?_)⟩
  obtain ⟨v, rfl, hp⟩ := he
  exact hk _ _ hp
def UponAt (P : Program) (ops : Array Oper) (n : Nat) (m : Fm) (i : Nat) (w : World) (Post : Value → World → Prop) : Prop :=
 ∃ o, effOf ops n m i = some o ∧ Upon P o m w Post
theorem upon_run {i : Nat} {s : Sem Next} {d : Option Nat} {v : Value} {w' : World} {Post : Value → World → Prop} (ho : runOf ops n m i = some (s, d)) (hr : s.run P w = .ok (.value v) w')
  (hp : Post v w') : UponAt P ops n m i w Post := by
 unfold runOf at ho
 split at ho
 ·rename_i o he
  simp only [Option.some.injEq, Prod.mk.injEq] at ho
  obtain ⟨rfl, rfl⟩ := ho
  exact ⟨o, he, .inl ⟨v, w', hr, hp⟩⟩
 ·cases ho
theorem upon_box {i nb : Nat} {cs : Array Value} {T : TypeId} {d : Option Nat} {Post : Value → World → Prop} (ho : boxOf P ops n m i = some (cs, T, d)) (hnb : w.heap.size = nb)
  (hp : Post (.pointer (some ⟨nb, 0, none⟩)) (w.alloc (.cells cs T))) : UponAt P ops n m i w Post := by
 subst hnb
 unfold boxOf at ho
 split at ho
 ·rename_i o he
  split at ho
  ·rename_i T' x hop
   split at ho
   ·rename_i v hv
    simp only [Option.some.injEq, Prod.mk.injEq] at ho
    obtain ⟨rfl, rfl, rfl⟩ := ho
    exact ⟨o, he, .inl ⟨_, _, by simp [execOp, hop, Instr.box, newVar, newRow, fenv, hv], hp⟩⟩
   ·cases ho
  ·rename_i T' hop
   split at ho
   ·rename_i z hz
    simp only [Option.some.injEq, Prod.mk.injEq] at ho
    obtain ⟨rfl, rfl, rfl⟩ := ho
    exact ⟨o, he, .inl ⟨_, _, by simp [execOp, hop, Instr.alloc, newVar, newRow, closedZ_run hz w], hp⟩⟩
   ·cases ho
  ·cases ho
 ·cases ho
theorem upon_store {i : Nat} {b off : Nat} {vs : List Value} {T : TypeId} {cs : Array Value} {Post : Value → World → Prop} (ho : storeOf P ops n m i = some (b, off, vs)) (hB : Blk w b T cs)
  (hle : off + vs.length ≤ cs.size) (hp : Post undef (upd w b T (setAt cs off vs))) : UponAt P ops n m i w Post := by
 unfold storeOf at ho
 split at ho
 ·rename_i o he
  split at ho
  ·rename_i t x y hop hdst
   split at ho
   ·rename_i b' off' v k hx hy hk'
    split at ho
    ·rename_i hl
     split at ho
     ·rename_i h1'
      simp only [Option.some.injEq, Prod.mk.injEq] at ho
      obtain ⟨rfl, rfl, rfl⟩ := ho
      have hlen : v.cells.size = k := by simpa using lenIs_spec hl
      have hrun := run_storeVar_blk P (t := t) (v := v) (off := off') hB (by rw [hk', hlen]) h1' (by simpa using hle)
      exact ⟨o, he, .inr (.inl ⟨_, by simp [execOp, hop, Instr.storeAt, Instr.sureAddr, fenv, hx, hy, hrun], hp⟩)⟩
     ·cases ho
    ·cases ho
   ·cases ho
  ·cases ho
 ·cases ho
theorem evs_env : ∀ (xs : List Operand) (vs : List Value), evs m xs = some vs → xs.map (fenv m) = vs
 | [], vs, h => by simp [evs] at h; subst h; rfl
 | x :: xs, vs, h => by
  simp only [evs] at h
  split at h
  ·rename_i v hv
   split at h
   ·rename_i us hu
    simp only [Option.some.injEq] at h
    subst h
    simp [fenv, hv]
    have := evs_env xs us hu
    simpa [fenv] using this
   ·cases h
  ·cases h
theorem upon_call {i : Nat} {f : FuncId} {vs : List Value} {cap : Array Value} {d : Option Nat} {R : Ending → World → Prop} {Post : Value → World → Prop}
  (ho : callOf ops n m i = some (.func f, vs, cap, d)) (hc : ∀ args w, (callFunc f args).run P w = .ok (.enter f args) w) (args : Array Value) (hargs : (vs ++ cap.toList).toArray = args)
  (hC : Calls P f args w R) (hp : ∀ e w', R e w' → ∃ v, e = .returned v ∧ Post v w') : UponAt P ops n m i w Post := by
 unfold callOf at ho
 split at ho
 ·rename_i o he
  split at ho
  ·rename_i c hop
   split at ho
   ·rename_i f' hcal
    split at ho
    ·rename_i fn first cap' us hf hus
     simp only [Option.some.injEq, Prod.mk.injEq] at ho
     obtain ⟨rfl, rfl, rfl, rfl⟩ := ho
     have hev : fenv m f' = .func (.func f) first cap' := by simp [fenv, hf]
     have hmap : c.args.map (fenv m) = us.toArray := by
      rw [← evs_env _ _ hus]; apply Array.ext'; simp
     have hargs' : (first ++ us.toArray) ++ cap' = args := by rw [← hargs]; simp
     refine ⟨o, he, .inr (.inr (.inl ⟨f, args, w, ?_, hC.mono hp⟩))⟩
     simp only [execOp, hop, resolve, hcal, hev, hmap, Deferred.ofValue, invoke, Sem.run_bind, Sem.run_pure, Result.andThen_ok, hargs', hc]
    ·cases ho
   ·cases ho
  ·cases ho
 ·cases ho
end
/-! ### a region that draws its order -/
def edgesOf (o : Oper) : List Nat := (o.after.toList.filter (Region.binds .any)).map (·.on)
def looks (ops : Array Oper) (o : Oper) : List Nat :=
 (o.op.operands.toList.filterMap fun | .tmp t => some t | _ => none) ++
 (match o.guard with
  | none => []
  | some (j, _) => match ops[j]? with
   | some oj => match oj.dst with
    | some d => [d]
    | none => []
   | none => [])
def rank : List Bool → Nat → Nat
 | _, 0 => 0
 | [], _ => 0
 | b :: bs, i + 1 => (match b with | true => 1 | false => 0) + rank bs i
structure Plan where
 eff : List Bool
 lo : List Nat
 hi : List Nat
 ms : List Nat
def Plan.isEff (p : Plan) (i : Nat) : Bool := p.eff.getD i false
def Plan.rk (p : Plan) (i : Nat) : Nat := rank p.eff i
def Plan.lo' (p : Plan) (i : Nat) : Nat := p.lo.getD i 0
def Plan.hi' (p : Plan) (i : Nat) : Nat := p.hi.getD i 0
def Plan.dep (p : Plan) (i j : Nat) : Bool := (p.ms.getD i 0).testBit j
def hasKey (m : Fm) (t : Nat) : Bool := match fget m t with
 | some _ => true
 | none => false
theorem hasKey_spec {m : Fm} {t : Nat} (h : hasKey m t = true) : ∃ v, fget m t = some v := by
 unfold hasKey at h
 split at h
 ·rename_i v hv; exact ⟨v, hv⟩
 ·cases h
def chkOp (ops : Array Oper) (p : Plan) (om : Fm) (E i : Nat) (o : Oper) : Bool :=
 (edgesOf o).all (fun j => Nat.blt j i) &&
 (List.range ops.size).all (fun j => match ops[j]? with
  | some oj =>
   (match o.dst, oj.dst with | some d, some d' => (Nat.beq i j || !Nat.beq d d') | _, _ => true) &&
   (match oj.dst with | some d' => (!(looks ops o).contains d' || p.dep i j || (p.dep j i && hasKey om d')) | none => true) &&
   (!p.dep i j || (edgesOf o).any (fun k => Nat.beq j k || p.dep k j)) &&
   (!p.isEff j || Nat.beq i j || Nat.blt (p.rk j) (p.hi' i) || p.dep j i)
  | none => true) &&
 (Nat.beq (p.lo' i) 0 || (edgesOf o).any (fun j => Nat.ble (p.lo' i) (match p.isEff j with | true => p.rk j + 1 | false => p.lo' j))) &&
 (!p.isEff i || (Nat.beq (p.lo' i) (p.rk i) && Nat.beq (p.hi' i) (p.rk i) && Nat.blt (p.rk i) E))
def chk (ops : Array Oper) (p : Plan) (om : Fm) (E : Nat) : Bool := (List.range ops.size).all (fun i => match ops[i]? with
 | some o => chkOp ops p om E i o
 | none => false) && (Nat.beq E 0 || (List.range ops.size).any (fun i => p.isEff i && Nat.beq (p.rk i + 1) E))
structure Ok (ops : Array Oper) (p : Plan) (om : Fm) (E i : Nat) (o : Oper) : Prop where
 edge : ∀ j ∈ edgesOf o, j < i
 uniq : ∀ (j : Nat) (oj : Oper), ops[j]? = some oj → ∀ d, o.dst = some d → oj.dst = some d → i = j
 look : ∀ (j : Nat) (oj : Oper), ops[j]? = some oj → ∀ d, oj.dst = some d → d ∈ looks ops o → p.dep i j = true ∨ (p.dep j i = true ∧ ∃ v, fget om d = some v)
 clos : ∀ (j : Nat) (oj : Oper), ops[j]? = some oj → p.dep i j = true → ∃ k ∈ edgesOf o, j = k ∨ p.dep k j = true
 high : ∀ (j : Nat) (oj : Oper), ops[j]? = some oj → p.isEff j = true → i ≠ j → p.hi' i ≤ p.rk j → p.dep j i = true
 low : p.lo' i = 0 ∨ ∃ j ∈ edgesOf o, p.lo' i ≤ (match p.isEff j with | true => p.rk j + 1 | false => p.lo' j)
 effs : p.isEff i = true → p.lo' i = p.rk i ∧ p.hi' i = p.rk i ∧ p.rk i < E
theorem chkOp_ok {ops : Array Oper} {p : Plan} {om : Fm} {E i : Nat} {o : Oper} (h : chkOp ops p om E i o = true) : Ok ops p om E i o := by
 simp only [chkOp, Bool.and_eq_true, List.all_eq_true, List.mem_range] at h
 obtain ⟨⟨⟨h1, h2⟩, h3⟩, h4⟩ := h
 have g : ∀ (j : Nat) (oj : Oper), ops[j]? = some oj → _ := fun j oj hj => by
  have hlt : j < ops.size := (Array.getElem?_eq_some_iff.1 hj).1
  have := h2 j hlt
  rw [hj] at this
  simp only [Bool.and_eq_true] at this
  exact this
 refine ⟨fun j hj => by simpa using h1 j hj, ?_, ?_, ?_, ?_, ?_, ?_⟩
 ·intro j oj hj d hd hd'
  have := (g j oj hj).1.1.1
  rw [hd, hd'] at this
  simpa using this
 ·intro j oj hj d hd hl
  have := (g j oj hj).1.1.2
  rw [hd] at this
  have hl' : (looks ops o).contains d = true := by simpa using hl
  simp only [hl', Bool.not_true, Bool.false_or, Bool.or_eq_true, Bool.and_eq_true] at this
  exact this.imp id fun h => ⟨h.1, hasKey_spec h.2⟩
 ·intro j oj hj hd
  have := (g j oj hj).1.2
  simp only [hd, Bool.not_true, Bool.false_or, List.any_eq_true, Bool.or_eq_true] at this
  obtain ⟨k, hk, h5⟩ := this
  exact ⟨k, hk, by simpa using h5⟩
 ·intro j oj hj he hne hle
  have := (g j oj hj).2
  simp only [he, Bool.not_true, Bool.false_or, Bool.or_eq_true] at this
  rcases this with (h5 | h5) | h5
  ·exact absurd (Nat.eq_of_beq_eq_true h5) hne
  ·have := Nat.le_of_ble_eq_true h5; omega
  ·exact h5
 ·simp only [Bool.or_eq_true, List.any_eq_true] at h3
  rcases h3 with h5 | ⟨j, hj, h5⟩
  ·exact .inl (Nat.eq_of_beq_eq_true h5)
  ·exact .inr ⟨j, hj, Nat.le_of_ble_eq_true h5⟩
 ·intro he
  simp only [he, Bool.not_true, Bool.false_or, Bool.and_eq_true] at h4
  exact ⟨Nat.eq_of_beq_eq_true h4.1.1, Nat.eq_of_beq_eq_true h4.1.2, Nat.le_of_ble_eq_true h4.2⟩
inductive Item
 | q (c : Cmd)
 | e
def itemEff : Item → Bool
 | .e => true
 | .q _ => false
def qOne (P : Program) (w : World) (m : Fm) (ops : Array Oper) (i : Nat) (c : Cmd) : Option (List Prop × Value) := match ops[i]? with
 | none => none
 | some o => match wants ops m o with
  | none => none
  | some false => match c with
   | .no => some ([], undef)
   | _ => none
  | some true => match opFine m o with
   | false => none
   | true => evC P w m o c
def qAll (P : Program) (w : World) (m : Nat → Fm) (ops : Array Oper) : List Item → Nat → Option (List (Nat × List Prop) × List Value)
 | [], _ => some ([], [])
 | .e :: its, i => qAll P w m ops its (i + 1)
 | .q c :: its, i => match qOne P w (m i) ops i c with
  | none => none
  | some (ps, v) => match qAll P w m ops its (i + 1) with
   | none => none
   | some (obs, vs) => some (match ps with
    | [] => obs
    | p :: ps' => (i, p :: ps') :: obs, v :: vs)
def dstVal (ops : Array Oper) (m : Fm) (i : Nat) : Value := match ops[i]? with
 | some o => match o.dst with
  | some d => match fget m d with
   | some v => v
   | none => undef
  | none => undef
 | none => undef
def sVals (m : Fm) (ops : Array Oper) : List Item → Nat → List Value
 | [], _ => []
 | .e :: its, i => sVals m ops its (i + 1)
 | .q _ :: its, i => dstVal ops m i :: sVals m ops its (i + 1)
theorem qAll_spec {P : Program} {w : World} {ρ : Nat → Fm} {m : Fm} {ops : Array Oper} : ∀ (its : List Item) (i : Nat) (obs : List (Nat × List Prop)) (vs : List Value),
  qAll P w ρ ops its i = some (obs, vs) → vs = sVals m ops its i → ∀ (k : Nat) (c : Cmd), its[k]? = some (.q c) → ∃ ps, qOne P w (ρ (i + k)) ops (i + k) c = some (ps, dstVal ops m (i + k)) ∧ (ps = [] ∨ (i + k, ps) ∈ obs)
 | [], i, obs, vs, h, hv, k, c, hk => by simp at hk
 | .e :: its, i, obs, vs, h, hv, k, c, hk => by
  cases k with
  | zero => simp at hk
  | succ k =>
   have := qAll_spec its (i + 1) obs vs h hv k c (by simpa using hk)
   rwa [show i + 1 + k = i + (k + 1) by omega] at this
 | .q c' :: its, i, obs, vs, h, hv, k, c, hk => by
  simp only [qAll] at h
  split at h
  ·cases h
  ·rename_i ps v hq
   split at h
   ·cases h
   ·rename_i obs' vs' hr
    simp only [Option.some.injEq, Prod.mk.injEq] at h
    obtain ⟨h1, rfl⟩ := h
    simp only [sVals, List.cons.injEq] at hv
    obtain ⟨hv1, hv2⟩ := hv
    cases k with
    | zero =>
     simp only [List.getElem?_cons_zero, Option.some.injEq, Item.q.injEq] at hk
     subst hk
     refine ⟨ps, by rw [Nat.add_zero, hq, hv1], ?_⟩
     cases ps with
     | nil => exact .inl rfl
     | cons p ps => right; rw [← h1]; simp
    | succ k =>
     obtain ⟨ps', hq', hor⟩ := qAll_spec its (i + 1) obs' vs' hr hv2 k c (by simpa using hk)
     rw [show i + 1 + k = i + (k + 1) by omega] at hq' hor
     refine ⟨ps', hq', hor.imp id fun hm => ?_⟩
     rw [← h1]
     cases ps with
     | nil => exact hm
     | cons p ps => exact List.mem_cons_of_mem _ hm
def isDst (ops : Array Oper) (t : Nat) : Bool := (List.range ops.size).any fun j => match ops[j]? with
 | some o => match o.dst with
  | some d => Nat.beq d t
  | none => false
 | none => false
def fdrop (f : Nat → Bool) : Fm → Fm
 | [] => []
 | (t, v) :: m => match f t with
  | true => fdrop f m
  | false => (t, v) :: fdrop f m
theorem fdrop_get (f : Nat → Bool) : ∀ (m : Fm) (t : Nat), f t = false → fget (fdrop f m) t = fget m t
 | [], t, _ => rfl
 | (u, v) :: m, t, h => by
  simp only [fdrop]
  cases hb : Nat.beq u t with
  | true =>
   have := Nat.eq_of_beq_eq_true hb
   subst this
   simp [h, fget]
  | false =>
   split
   ·rw [fdrop_get f m t h]; simp [fget, hb]
   ·simp only [fget, hb]; exact fdrop_get f m t h
def late (ops : Array Oper) (p : Plan) (i t : Nat) : Bool := (List.range ops.size).any fun j => (Nat.beq i j || p.dep j i) && match ops[j]? with
 | some o => match o.dst with
  | some d => Nat.beq d t
  | none => false
 | none => false
def early (ops : Array Oper) (p : Plan) (i t : Nat) : Bool := (List.range ops.size).any fun j => p.dep j i && match ops[j]? with
 | some o => match o.dst with
  | some d => Nat.beq d t
  | none => false
 | none => false
def fonly (f : Nat → Bool) : Fm → Fm
 | [] => []
 | (t, v) :: m => match f t with
  | true => (t, v) :: fonly f m
  | false => fonly f m
def fapp : Fm → Fm → Fm
 | [], s => s
 | x :: m, s => x :: fapp m s
def em (ops : Array Oper) (p : Plan) (om s : Fm) (i : Nat) : Fm := fapp (fonly (early ops p i) om) s
theorem fapp_none (f : Nat → Bool) : ∀ (om s : Fm) (t : Nat), f t = false → fget (fapp (fonly f om) s) t = fget s t
 | [], s, t, _ => rfl
 | (u, v) :: om, s, t, h => by
  simp only [fonly]
  cases hu : f u with
  | false => exact fapp_none f om s t h
  | true =>
   simp only [fapp, fget]
   cases hb : Nat.beq u t with
   | true =>
    have := Nat.eq_of_beq_eq_true hb
    subst this
    rw [h] at hu; cases hu
   | false => exact fapp_none f om s t h
theorem fapp_some (f : Nat → Bool) : ∀ (om s : Fm) (t : Nat) (v : Value), f t = true → fget om t = some v → fget (fapp (fonly f om) s) t = some v
 | [], s, t, v, _, h => by simp [fget] at h
 | (u, x) :: om, s, t, v, hf, h => by
  simp only [fget] at h
  cases hb : Nat.beq u t with
  | true =>
   have := Nat.eq_of_beq_eq_true hb
   subst this
   simp only [hb] at h
   simp only [fonly, hf, fapp, fget, hb]
   exact h
  | false =>
   simp only [hb] at h
   have ih := fapp_some f om s t v hf h
   simp only [fonly]
   cases f u with
   | true => simp only [fapp, fget, hb]; exact ih
   | false => exact ih
def dstsOk (ops : Array Oper) (n : Nat) : Bool := (List.range ops.size).all fun j => match ops[j]? with
 | some o => dstOk n o.dst && opOk o
 | none => true
section
variable {F : Fence} {P : Program} {ops : Array Oper} {Q : Exit → Act → World → Prop} {a : Act} {w : World} {n : Nat} {ds : List Deferred} {m : Fm}
theorem chk_ok {p : Plan} {om : Fm} {E : Nat} (h : chk ops p om E = true) {i : Nat} {o : Oper} (ho : ops[i]? = some o) : Ok ops p om E i o := by
 simp only [chk, Bool.and_eq_true, List.all_eq_true, List.mem_range] at h
 have := h.1 i (Array.getElem?_eq_some_iff.1 ho).1
 rw [ho] at this
 exact chkOp_ok this
theorem chk_last {p : Plan} {om : Fm} {E : Nat} (h : chk ops p om E = true) : E = 0 ∨ ∃ i, i < ops.size ∧ p.isEff i = true ∧ p.rk i + 1 = E := by
 simp only [chk, Bool.and_eq_true, Bool.or_eq_true, List.any_eq_true, List.mem_range] at h
 rcases h.2 with h1 | ⟨i, hi, h1, h2⟩
 ·exact .inl (Nat.eq_of_beq_eq_true h1)
 ·exact .inr ⟨i, hi, h1, Nat.eq_of_beq_eq_true h2⟩
structure Inv (ops : Array Oper) (n : Nat) (ds : List Deferred) (p : Plan) (om : Fm) (E : Nat) (listed : Array Bool) (e : Nat) (s : Fm) (a : Act) : Prop where
 len : listed.size = ops.size
 size : a.tmps.size = n
 defers : a.defers = ds
 closed : ∀ (i : Nat) (o : Oper), ops[i]? = some o → listed[i]? = some true → ∀ j ∈ edgesOf o, listed[j]? = some true
 done : ∀ i, listed[i]? = some true → (match p.isEff i with | true => p.rk i + 1 | false => p.lo' i) ≤ e
 open_ : ∀ i, listed[i]? = some false → e ≤ p.hi' i
 le : e ≤ E
 agree : ∀ t v, (∀ (j : Nat) (oj : Oper), ops[j]? = some oj → oj.dst = some t → listed[j]? = some true) → fget s t = some v → a.tmps[t]? = some v
 old : ∀ (t : Nat) (v : Value) (j : Nat) (oj : Oper), ops[j]? = some oj → oj.dst = some t → listed[j]? = some false → fget om t = some v → a.tmps[t]? = some v
theorem closure_listed {p : Plan} {om : Fm} {E : Nat} (hc : chk ops p om E = true) {listed : Array Bool}
  (hcl : ∀ (i : Nat) (o : Oper), ops[i]? = some o → listed[i]? = some true → ∀ j ∈ edgesOf o, listed[j]? = some true) :
  ∀ (i : Nat) (o : Oper), ops[i]? = some o → (∀ j ∈ edgesOf o, listed[j]? = some true) → ∀ (j : Nat) (oj : Oper), ops[j]? = some oj → p.dep i j = true → listed[j]? = some true := by
 intro i
 induction i using Nat.strongRecOn with
 | _ i ih =>
  intro o ho he j oj hj hd
  obtain ⟨k, hk, h1⟩ := (chk_ok hc ho).clos j oj hj hd
  rcases h1 with rfl | h1
  ·exact he _ hk
  ·have hlt := (chk_ok hc ho).edge k hk
   have hkN : k < ops.size := Nat.lt_trans hlt (Array.getElem?_eq_some_iff.1 ho).1
   have hok : ops[k]? = some ops[k] := Array.getElem?_eq_getElem hkN
   exact ih k hlt _ hok (hcl k _ hok (he k hk)) j oj hj h1
theorem ready_spec {listed : Array Bool} {i : Nat} (h : i ∈ Region.ready .any ops listed) : ∃ o, ops[i]? = some o ∧ listed.getD i true = false ∧ ∀ j ∈ edgesOf o, listed.getD j false = true := by
 simp only [Region.ready, List.mem_filter, List.mem_range, Bool.and_eq_true, Bool.not_eq_true'] at h
 obtain ⟨hlt, hl, hr⟩ := h
 rw [Array.getElem?_eq_getElem hlt] at hr
 simp only [Option.map_some, Option.getD_some, Array.all_eq_true_iff_forall_mem] at hr
 refine ⟨ops[i], Array.getElem?_eq_getElem hlt, hl, fun j hj => ?_⟩
 simp only [edgesOf, List.mem_map, List.mem_filter, Array.mem_toList_iff] at hj
 obtain ⟨x, ⟨hx, hb⟩, rfl⟩ := hj
 have := hr x hx
 simpa [hb] using this
theorem ready_nil {p : Plan} {om : Fm} {E : Nat} (hc : chk ops p om E = true) {listed : Array Bool} (hlen : listed.size = ops.size) (h : Region.ready .any ops listed = []) : ∀ i, i < ops.size → listed[i]? = some true := by
 intro i
 induction i using Nat.strongRecOn with
 | _ i ih =>
  intro hi
  cases hl : listed[i]? with
  | none => rw [Array.getElem?_eq_none_iff] at hl; omega
  | some b =>
   cases b with
   | true => rfl
   | false =>
    exfalso
    have hmem : i ∈ Region.ready .any ops listed := by
     simp only [Region.ready, List.mem_filter, List.mem_range, Bool.and_eq_true, Bool.not_eq_true']
     refine ⟨hi, by simp [Array.getD_eq_getD_getElem?, hl], ?_⟩
     rw [Array.getElem?_eq_getElem hi]
     simp only [Option.map_some, Option.getD_some, Array.all_eq_true_iff_forall_mem]
     intro x hx
     cases hb : Region.binds .any x with
     | false => simp
     | true =>
      have he : x.on ∈ edgesOf ops[i] := by
       simp only [edgesOf, List.mem_map, List.mem_filter, Array.mem_toList_iff]
       exact ⟨x, ⟨hx, hb⟩, rfl⟩
      have hlt := (chk_ok hc (Array.getElem?_eq_getElem hi)).edge _ he
      have := ih x.on hlt (by omega)
      simp [Array.getD_eq_getD_getElem?, this]
    rw [h] at hmem
    cases hmem
def hidden (ops : Array Oper) (listed : Array Bool) (t : Nat) : Bool := (List.range ops.size).any fun j => match ops[j]? with
 | some o => match o.dst with
  | some d => Nat.beq d t && !(listed.getD j false)
  | none => false
 | none => false
theorem hidden_false {listed : Array Bool} {t : Nat} (h : hidden ops listed t = false) (j : Nat) (oj : Oper) (hj : ops[j]? = some oj) (hd : oj.dst = some t) : listed[j]? = some true := by
 simp only [hidden, List.any_eq_false, List.mem_range] at h
 have := h j (Array.getElem?_eq_some_iff.1 hj).1
 rw [hj] at this
 simp only [hd, Nat.beq_refl, Bool.true_and, Bool.not_eq_true', Bool.not_eq_false, Array.getD_eq_getD_getElem?] at this
 cases hl : listed[j]? with
 | none => simp [hl] at this
 | some b => simp [hl] at this; rw [this]
theorem hidden_true {listed : Array Bool} {t : Nat} (hlen : listed.size = ops.size) (h : hidden ops listed t = true) : ∃ (j : Nat) (oj : Oper), ops[j]? = some oj ∧ oj.dst = some t ∧ listed[j]? = some false := by
 simp only [hidden, List.any_eq_true, List.mem_range] at h
 obtain ⟨j, hj, h⟩ := h
 have hjo : ops[j]? = some ops[j] := Array.getElem?_eq_getElem hj
 rw [hjo] at h
 simp only at h
 cases hd : (ops[j]).dst with
 | none => rw [hd] at h; cases h
 | some d =>
  rw [hd] at h
  simp only [Bool.and_eq_true, Bool.not_eq_true'] at h
  have := Nat.eq_of_beq_eq_true h.1
  subst this
  refine ⟨j, _, hjo, hd, ?_⟩
  have hl : j < listed.size := by rw [hlen]; exact hj
  have h2 := h.2
  rw [Array.getD_eq_getD_getElem?, Array.getElem?_eq_getElem hl] at h2
  rw [Array.getElem?_eq_getElem hl]
  simpa using h2
theorem fdrop_hid (f : Nat → Bool) : ∀ (s : Fm) (t : Nat), f t = true → fget (fdrop f s) t = none
 | [], t, _ => rfl
 | (u, y) :: s, t, h => by
  simp only [fdrop]
  split
  ·exact fdrop_hid f s t h
  ·rename_i hu
   simp only [fget]
   split
   ·rename_i hb
    have := Nat.eq_of_beq_eq_true hb
    subst this
    rw [h] at hu; cases hu
   ·exact fdrop_hid f s t h
theorem fonly_some (f : Nat → Bool) : ∀ (om s : Fm) (t : Nat) (v : Value), f t = true → fget (fapp (fonly f om) s) t = some v → fget om t = some v ∨ fget s t = some v
 | [], s, t, v, _, h => .inr h
 | (u, x) :: om, s, t, v, hf, h => by
  simp only [fget]
  cases hb : Nat.beq u t with
  | true =>
   have := Nat.eq_of_beq_eq_true hb
   subst this
   simp only [fonly, hf, fapp, fget, hb] at h
   exact .inl h
  | false =>
   simp only [fonly] at h
   cases hu : f u with
   | true => rw [hu] at h; simp only [fapp, fget, hb] at h; exact fonly_some f om s t v hf h
   | false => rw [hu] at h; exact fonly_some f om s t v hf h
theorem Inv.st {p : Plan} {om : Fm} {E e : Nat} {listed : Array Bool} {s : Fm} (h : Inv ops n ds p om E listed e s a) : St n ds (fapp (fonly (hidden ops listed) om) (fdrop (hidden ops listed) s)) a := by
 refine ⟨h.size, h.defers, fun t v ht => ?_⟩
 cases hh : hidden ops listed t with
 | false =>
  rw [fapp_none _ om _ t hh, fdrop_get _ s t hh] at ht
  exact h.agree t v (hidden_false hh) ht
 | true =>
  rcases fonly_some _ om _ t v hh ht with h1 | h1
  ·obtain ⟨j, oj, hj, hd, hl⟩ := hidden_true h.len hh
   exact h.old t v j oj hj hd hl h1
  ·rw [fdrop_hid _ s t hh] at h1; cases h1
theorem wants_congr {o : Oper} {m m' : Fm} (h : ∀ t ∈ looks ops o, fget m t = fget m' t) : wants ops m o = wants ops m' o := by
 unfold wants
 cases hg : o.guard with
 | none => rfl
 | some x =>
  obtain ⟨j, want⟩ := x
  simp only
  cases hj : ops[j]? with
  | none => rfl
  | some oj =>
   simp only
   cases hd : oj.dst with
   | none => rfl
   | some d =>
    simp only
    rw [h d (by simp [looks, hg, hj, hd])]
theorem fev_congr {o : Oper} {m m' : Fm} (h : ∀ t ∈ looks ops o, fget m t = fget m' t) : ∀ x ∈ o.op.operands, fev m x = fev m' x := by
 intro x hx
 cases x with
 | tmp t => exact h t (by simp only [looks, List.mem_append, List.mem_filterMap]; left; exact ⟨.tmp t, by simpa using hx, rfl⟩)
 | _ => rfl
theorem known_congr {m m' : Fm} : ∀ (xs : List Operand), (∀ x ∈ xs, fev m x = fev m' x) → known m xs = known m' xs
 | [], _ => rfl
 | x :: xs, h => by
  simp only [known]
  rw [h x (by simp), known_congr xs (fun y hy => h y (by simp [hy]))]
theorem opFine_congr {o : Oper} {m m' : Fm} (h : ∀ t ∈ looks ops o, fget m t = fget m' t) : opFine m o = opFine m' o := by
 simp only [opFine]
 rw [known_congr _ (fun x hx => fev_congr h x (by simpa using hx))]
theorem exec_congr {o : Oper} {m m' : Fm} (h : ∀ t ∈ looks ops o, fget m t = fget m' t) (ho : opFine m o = true) : execOp (fenv m) o = execOp (fenv m') o := by
 simp only [opFine] at ho
 split at ho
 ·rename_i hok
  exact execOp_congr o (fun cs b hc => by simp [opOk, hc] at hok) (fun x hx => by simp [fenv, fev_congr h x hx])
 ·cases ho
theorem count_set : ∀ (l : List Bool) (i : Nat), l[i]? = some false → (l.set i true).count false + 1 = l.count false
 | [], i, h => by simp at h
 | b :: l, 0, h => by simp at h; subst h; simp
 | b :: l, i + 1, h => by
  have := count_set l i (by simpa using h)
  cases b <;> simp at this ⊢ <;> omega
def dstGet (ops : Array Oper) (m : Fm) (i : Nat) (v : Value) : Option Value := match ops[i]? with
 | some o => match o.dst with
  | some d => match fget m d with
   | some u => some u
   | none => some v
  | none => some v
 | none => some v
theorem dstGet_spec {m : Fm} {i : Nat} {v : Value} (h : dstGet ops m i v = some v) (o : Oper) (d : Nat) (u : Value) (ho : ops[i]? = some o) (hd : o.dst = some d) (hu : fget m d = some u) : u = v := by
 simpa [dstGet, ho, hd, hu] using h
def EffPost {G : Type} (ops : Array Oper) (p : Plan) (σ : G → Fm) (W : Nat → G → World → Prop) (i : Nat) (g : G) (v : Value) (w' : World) : Prop :=
 ∃ g', fdrop (late ops p i) (σ g) = fdrop (late ops p i) (σ g') ∧ dstGet ops (σ g') i v = some v ∧ W (p.rk i + 1) g' w'
inductive AllN (R : Nat → Prop) : List Nat → Prop
 | nil : AllN R []
 | cons {i : Nat} {l : List Nat} : R i → AllN R l → AllN R (i :: l)
theorem AllN.mem {R : Nat → Prop} : ∀ {l : List Nat}, AllN R l → ∀ i ∈ l, R i
 | _, .nil, i, h => by cases h
 | _, .cons h hs, i, hi => by rcases List.mem_cons.1 hi with rfl | hi; exact h; exact hs.mem i hi
theorem Inv.step {p : Plan} {om : Fm} {E e : Nat} {listed : Array Bool} {s s' : Fm} (hc : chk ops p om E = true) (h : Inv ops n ds p om E listed e s a) {i : Nat} {o : Oper} (ho : ops[i]? = some o)
  (hl : listed[i]? = some false) (he : ∀ j ∈ edgesOf o, listed[j]? = some true) (v : Value) (hdst : dstOk n o.dst = true)
  (hs : p.isEff i = false → s' = s) (hs' : p.isEff i = true → fdrop (late ops p i) s = fdrop (late ops p i) s') (hv : ∀ d u, o.dst = some d → fget s' d = some u → u = v) :
  Inv ops n ds p om E (listed.setIfInBounds i true) (match p.isEff i with | true => p.rk i + 1 | false => e) s' (a.put o.dst v) := by
 have hok := chk_ok hc ho
 have hiN : i < ops.size := (Array.getElem?_eq_some_iff.1 ho).1
 have hil : i < listed.size := by rw [h.len]; exact hiN
 have hlow : p.lo' i ≤ e := by
  rcases hok.low with h0 | ⟨j, hj, hle⟩
  ·omega
  ·exact Nat.le_trans hle (h.done j (he j hj))
 have hget : ∀ j, j ≠ i → (listed.setIfInBounds i true)[j]? = listed[j]? := fun j hj => Array.getElem?_setIfInBounds_ne (Ne.symm hj)
 have hself : (listed.setIfInBounds i true)[i]? = some true := Array.getElem?_setIfInBounds_self_of_lt hil
 have hmono : ∀ j, listed[j]? = some true → (listed.setIfInBounds i true)[j]? = some true := fun j hj => by
  by_cases e : j = i
  ·subst e; exact hself
  ·rw [hget j e]; exact hj
 have heq : p.isEff i = true → e = p.rk i := fun hi => by
  obtain ⟨h1, h2, _⟩ := hok.effs hi
  have := h.open_ i hl
  omega
 refine ⟨by simp [h.len], ?_, ?_, ?_, ?_, ?_, ?_, ?_, ?_⟩
 ·cases o.dst <;> simp [Act.put, h.size]
 ·cases o.dst <;> simp [Act.put, h.defers]
 ·intro j oj hj hlj k hk
  by_cases e : j = i
  ·subst e
   rw [ho] at hj; cases hj
   exact hmono k (he k hk)
  ·rw [hget j e] at hlj
   exact hmono k (h.closed j oj hj hlj k hk)
 ·intro j hlj
  by_cases ej : j = i
  ·subst ej
   cases hi : p.isEff j with
   | true => simp
   | false => simp only; exact hlow
  ·rw [hget j ej] at hlj
   have := h.done j hlj
   cases hi : p.isEff i with
   | false => simpa [hi] using this
   | true => have := heq hi; simp only; omega
 ·intro j hlj
  have ej : j ≠ i := fun e => by subst e; rw [hself] at hlj; cases hlj
  rw [hget j ej] at hlj
  have h1 := h.open_ j hlj
  cases hi : p.isEff i with
  | false => simpa [hi] using h1
  | true =>
   simp only
   have hjN : j < ops.size := by rw [← h.len]; exact (Array.getElem?_eq_some_iff.1 hlj).1
   have hj := Array.getElem?_eq_getElem hjN
   by_cases hle : p.hi' j ≤ p.rk i
   ·have hd := (chk_ok hc hj).high i o ho hi ej hle
    have := closure_listed hc h.closed i o ho he j _ hj hd
    rw [hlj] at this; cases this
   ·omega
 ·cases hi : p.isEff i with
  | false => exact h.le
  | true => have := (hok.effs hi).2.2; simp only; omega
 ·intro t u hw ht
  by_cases hd : o.dst = some t
  ·have hu := hv t u hd ht
   subst hu
   have hlt : t < n := by rw [hd] at hdst; simpa [dstOk, Nat.blt_eq] using hdst
   rw [hd]
   simp only [Act.put]
   exact Array.getElem?_setIfInBounds_self_of_lt (by rw [h.size]; exact hlt)
  ·have hw' : ∀ (j : Nat) (oj : Oper), ops[j]? = some oj → oj.dst = some t → listed[j]? = some true := fun j oj hj hdj => by
    have ej : j ≠ i := fun e => by subst e; rw [ho] at hj; cases hj; exact hd hdj
    have := hw j oj hj hdj
    rwa [hget j ej] at this
   have hts : fget s t = some u := by
    cases hi : p.isEff i with
    | false => rw [hs hi] at ht; exact ht
    | true =>
     have hlate : late ops p i t = false := by
      simp only [late, List.any_eq_false, List.mem_range]
      intro j hj
      obtain ⟨oj, hjo⟩ : ∃ o, ops[j]? = some o := ⟨_, Array.getElem?_eq_getElem hj⟩
      rw [hjo]
      simp only
      cases hdj : oj.dst with
      | none => simp
      | some d =>
       simp only [Bool.and_eq_true, not_and]
       intro hor hb
       have hdt := Nat.eq_of_beq_eq_true hb
       subst hdt
       simp only [Bool.or_eq_true] at hor
       rcases hor with h1 | h1
       ·have := Nat.eq_of_beq_eq_true h1
        subst this
        rw [ho] at hjo; cases hjo
        exact hd hdj
       ·have hlj := hw' j _ hjo hdj
        have := closure_listed hc h.closed j _ hjo (h.closed j _ hjo hlj) i o ho h1
        rw [hl] at this; cases this
     rw [← fdrop_get _ s t hlate, hs' hi, fdrop_get _ s' t hlate]
     exact ht
   have := h.agree t u hw' hts
   cases hdo : o.dst with
   | none => exact this
   | some d =>
    have hne : d ≠ t := fun e => hd (by rw [hdo, e])
    simp only [Act.put]
    rw [Array.getElem?_setIfInBounds_ne hne]
    exact this
 ·intro t u j oj hj hdj hlj hu
  have ej : j ≠ i := fun e => by subst e; rw [hself] at hlj; cases hlj
  rw [hget j ej] at hlj
  have := h.old t u j oj hj hdj hlj hu
  cases hdo : o.dst with
  | none => exact this
  | some d =>
   have hne : d ≠ t := fun e => ej ((chk_ok hc hj).uniq i o ho t hdj (by rw [hdo, e]))
   simp only [Act.put]
   rw [Array.getElem?_setIfInBounds_ne hne]
   exact this
theorem region_any {G : Type} (hW : Wide F) {id : Nat} (items : List Item) (lo hi ms effs : List Nat) (E : Nat) (σ : G → Fm) (W : Nat → G → World → Prop) (obls : G → World → List (Nat × List Prop)) (g₀ : G) (ks oks : List Nat)
  (hS : St n ds m a) (hm : P.follows .mixedOrders = true)
  (hc : chk ops ⟨items.map itemEff, lo, hi, ms⟩ (fkeep m oks) E = true) (hN : Nat.beq items.length ops.size = true) (hD : dstsOk ops n = true)
  (hq : ∀ g w, qAll P w (em ops ⟨items.map itemEff, lo, hi, ms⟩ (fkeep m oks) (σ g)) ops items 0 = some (obls g w, sVals (σ g) ops items 0))
  (hE : (List.range ops.size).filter (Plan.isEff ⟨items.map itemEff, lo, hi, ms⟩) = effs)
  (hlive : fkeep m ks = fdrop (isDst ops) (σ g₀))
  (h0 : W 0 g₀ w.drew)
  (hobl : ∀ e g w, W e g w → ∀ x ∈ obls g w, lo.getD x.1 0 ≤ e → e ≤ hi.getD x.1 0 → AllP x.2)
  (heff : AllN (fun i => ∀ g w, W (rank (items.map itemEff) i) g w → UponAt P ops n (em ops ⟨items.map itemEff, lo, hi, ms⟩ (fkeep m oks) (σ g) i) i w (EffPost ops ⟨items.map itemEff, lo, hi, ms⟩ σ W i g)) effs)
  (hend : ∀ g a' w', St n ds (σ g) a' → W E g w' → Q .normal a' w') : (Code.region id ops true).wpIn F 0 P Q a w := by
 have hN' := Nat.eq_of_beq_eq_true hN
 generalize hp : (⟨items.map itemEff, lo, hi, ms⟩ : Plan) = p at *
 obtain ⟨om, hom⟩ : ∃ om, fkeep m oks = om := ⟨_, rfl⟩
 rw [hom] at hc
 simp only [hom] at hq heff
 have heffi : ∀ i, p.isEff i = (match items[i]? with | some it => itemEff it | none => false) := fun i => by
  subst hp
  simp only [Plan.isEff, List.getD_eq_getElem?_getD, List.getElem?_map]
  cases items[i]? <;> rfl
 have hd : ∀ (i : Nat) (o : Oper), ops[i]? = some o → dstOk n o.dst = true ∧ opOk o = true := fun i o ho => by
  simp only [dstsOk, List.all_eq_true, List.mem_range] at hD
  have := hD i (Array.getElem?_eq_some_iff.1 ho).1
  rw [ho] at this
  simpa using this
 refine wpIn_region_any hm ?_
 have key : ∀ fuel listed a w e g, Inv ops n ds p om E listed e (σ g) a → W e g w → listed.toList.count false ≤ fuel → wpAnyIn F 0 P .any ops Q fuel listed a w := by
  intro fuel
  have fin : ∀ listed a w e g, Inv ops n ds p om E listed e (σ g) a → W e g w → (∀ i, i < ops.size → listed[i]? = some true) → Q .normal a w := by
   intro listed a w e g hI hw hall
   have hee : e = E := by
    have h1 := hI.le
    rcases chk_last hc with h2 | ⟨i, hi, h2, h3⟩
    ·omega
    ·have := hI.done i (hall i hi)
     rw [h2] at this
     simp only at this
     omega
   subst hee
   refine hend g a w ⟨hI.size, hI.defers, fun t v ht => hI.agree t v (fun j oj hj _ => hall j (Array.getElem?_eq_some_iff.1 hj).1) ht⟩ hw
  have step : ∀ (K : Act → World → Prop) listed a w e g, Inv ops n ds p om E listed e (σ g) a → W e g w →
    ∀ i ∈ Region.ready .any ops listed, (∀ a' w' e' g', Inv ops n ds p om E (listed.setIfInBounds i true) e' (σ g') a' → W e' g' w' → K a' w') → wpOpIn F 0 P ops Q i K a w := by
   intro K listed a w e g hI hw i hi hK
   obtain ⟨o, ho, hl, hed⟩ := ready_spec hi
   have hiN : i < ops.size := (Array.getElem?_eq_some_iff.1 ho).1
   have hl' : listed[i]? = some false := by
    have : i < listed.size := by rw [hI.len]; exact hiN
    rw [Array.getD_eq_getD_getElem?, Array.getElem?_eq_getElem this] at hl
    rw [Array.getElem?_eq_getElem this]
    simpa using hl
   have hed' : ∀ j ∈ edgesOf o, listed[j]? = some true := fun j hj => by
    have := hed j hj
    rw [Array.getD_eq_getD_getElem?] at this
    cases hh : listed[j]? with
    | none => simp [hh] at this
    | some b => simp [hh] at this; rw [this]
   have hav : ∀ t ∈ looks ops o, fget (fapp (fonly (hidden ops listed) om) (fdrop (hidden ops listed) (σ g))) t = fget (em ops p om (σ g) i) t := fun t ht => by
    cases hh : hidden ops listed t with
    | true =>
     obtain ⟨j, oj, hj, hdj, hlj⟩ := hidden_true hI.len hh
     rcases (chk_ok hc ho).look j oj hj t hdj ht with h1 | ⟨h1, v, hv⟩
     ·have := closure_listed hc hI.closed i o ho hed' j oj hj h1
      rw [hlj] at this; cases this
     ·have he : early ops p i t = true := by
       simp only [early, List.any_eq_true, List.mem_range]
       exact ⟨j, (Array.getElem?_eq_some_iff.1 hj).1, by rw [hj]; simp [h1, hdj]⟩
      rw [fapp_some _ om _ t v hh hv]
      exact (fapp_some _ om _ t v he hv).symm
    | false =>
     rw [fapp_none _ om _ t hh, fdrop_get _ _ t hh]
     have he : early ops p i t = false := by
      cases hx : early ops p i t with
      | false => rfl
      | true =>
       exfalso
       simp only [early, List.any_eq_true, List.mem_range] at hx
       obtain ⟨j, hj, hx⟩ := hx
       have hjo : ops[j]? = some ops[j] := Array.getElem?_eq_getElem hj
       rw [hjo] at hx
       simp only [Bool.and_eq_true] at hx
       obtain ⟨hx1, hx2⟩ := hx
       cases hd : (ops[j]).dst with
       | none => rw [hd] at hx2; cases hx2
       | some d =>
        rw [hd] at hx2
        have := Nat.eq_of_beq_eq_true hx2
        subst this
        have hlj := hidden_false hh j _ hjo hd
        have := closure_listed hc hI.closed j _ hjo (hI.closed j _ hjo hlj) i o ho hx1
        rw [hl'] at this; cases this
     exact (fapp_none _ om _ t he).symm
   have hS' := hI.st
   have hlow : p.lo' i ≤ e := by
    rcases (chk_ok hc ho).low with h1 | ⟨j, hj, hle⟩
    ·omega
    ·exact Nat.le_trans hle (hI.done j (hed' j hj))
   have hhi := hI.open_ i hl'
   obtain ⟨hdo, hoo⟩ := hd i o ho
   unfold wpOpIn
   rw [ho]
   simp only
   cases hie : p.isEff i with
   | false =>
    have hit : ∃ c, items[i]? = some (.q c) := by
     have hlt : i < items.length := by omega
     have := heffi i
     rw [hie, List.getElem?_eq_getElem hlt] at this
     rw [List.getElem?_eq_getElem hlt]
     cases hx : items[i] with
     | q c => exact ⟨c, rfl⟩
     | e => rw [hx] at this; simp [itemEff] at this
    obtain ⟨c, hcq⟩ := hit
    obtain ⟨ps, hq1, hor⟩ := qAll_spec items 0 _ _ (hq g w) rfl i c hcq
    rw [Nat.zero_add] at hq1 hor
    have hall : AllP ps := by
     rcases hor with rfl | hm'
     ·exact .nil
     ·refine hobl e g w hw _ hm' ?_ ?_
      ·subst hp; exact hlow
      ·subst hp; exact hhi
    unfold qOne at hq1
    rw [ho] at hq1
    simp only at hq1
    have hdv : ∀ d u, o.dst = some d → fget (σ g) d = some u → u = dstVal ops (σ g) i := fun d u hd hu => by
     simp [dstVal, ho, hd, hu]
    split at hq1
    ·cases hq1
    ·rename_i hwn
     rw [← wants_congr hav] at hwn
     rw [wants_spec (a := a) hS' hwn]
     split at hq1
     ·simp only [Option.some.injEq, Prod.mk.injEq] at hq1
      refine ⟨about_any hW o _ w, ?_⟩
      have hI' := hI.step hc ho hl' hed' undef hdo (fun _ => rfl) (fun h => by simp [hie] at h) (fun d u h1 h2 => (hdv d u h1 h2).trans hq1.2.symm)
      rw [hie] at hI'
      exact hK _ _ _ _ hI' hw
     ·cases hq1
    ·rename_i hwn
     rw [← wants_congr hav] at hwn
     rw [wants_spec (a := a) hS' hwn]
     split at hq1
     ·cases hq1
     ·rename_i hf
      have hf' : opFine (fapp (fonly (hidden ops listed) om) (fdrop (hidden ops listed) (σ g))) o = true := by rw [opFine_congr hav]; exact hf
      have hrun := evC_run hq1 hall
      rw [← exec_congr hav hf'] at hrun
      rw [if_pos rfl]
      have hI' := hI.step hc ho hl' hed' (dstVal ops (σ g) i) hdo (fun _ => rfl) (fun h => by simp [hie] at h) hdv
      rw [hie] at hI'
      exact op_value hW hS' hf' hrun (hK _ _ _ _ hI' hw)
   | true =>
    have hin : i ∈ effs := by rw [← hE]; simp [hiN, hie]
    have heq : e = p.rk i := by
     obtain ⟨h1, h2, _⟩ := (chk_ok hc ho).effs hie
     omega
    have hrk : rank (items.map itemEff) i = p.rk i := by subst hp; rfl
    have := heff.mem i hin g w (by rw [hrk, ← heq]; exact hw)
    obtain ⟨o', ho', hu⟩ := this
    obtain ⟨h1, h2, h3, h4⟩ := effOf_spec ho'
    rw [ho] at h1; cases h1
    rw [← wants_congr hav] at h2
    have hf' : opFine (fapp (fonly (hidden ops listed) om) (fdrop (hidden ops listed) (σ g))) o = true := by rw [opFine_congr hav]; exact h3
    rw [wants_spec (a := a) hS' h2, if_pos rfl]
    refine upon_wp hW hu ?_ ?_
    ·rw [sem_eq F.round hS' hf', exec_congr hav hf']
    ·rintro v w' ⟨g', h5, h6, h7⟩
     have hI' := hI.step (s' := σ g') hc ho hl' hed' v hdo (fun h => by simp [hie] at h) (fun _ => h5) (fun d u hd hu => dstGet_spec h6 o d u ho hd hu)
     rw [hie] at hI'
     exact hK _ _ _ _ hI' h7
  induction fuel with
  | zero =>
   intro listed a w e g hI hw hcnt
   have hall : ∀ i, i < ops.size → listed[i]? = some true := fun i hi => by
    have hil : i < listed.size := by rw [hI.len]; exact hi
    rw [Array.getElem?_eq_getElem hil]
    cases hb : listed[i] with
    | true => rfl
    | false =>
     have : false ∈ listed.toList := by rw [← hb]; simp
     have := List.count_pos_iff.2 this
     omega
   refine ⟨?_, fin listed a w e g hI hw hall⟩
   simp only [Region.ready, List.filter_eq_nil_iff, List.mem_range]
   intro i hi
   simp [Array.getD_eq_getD_getElem?, hall i hi]
  | succ fuel ih =>
   intro listed a w e g hI hw hcnt
   refine ⟨fun hr => fin listed a w e g hI hw (ready_nil hc hI.len hr), fun i hi => ?_⟩
   refine step _ listed a w e g hI hw i hi fun a' w' e' g' hI' hw' => ih _ a' w' e' g' hI' hw' ?_
   obtain ⟨o, ho, hl, _⟩ := ready_spec hi
   have hil : i < listed.size := by rw [hI.len]; exact (Array.getElem?_eq_some_iff.1 ho).1
   have hl' : listed.toList[i]? = some false := by
    rw [Array.getD_eq_getD_getElem?, Array.getElem?_eq_getElem hil] at hl
    simp only [Array.getElem?_toList]
    rw [Array.getElem?_eq_getElem hil]
    simpa using hl
   have := count_set listed.toList i hl'
   simp only [Array.toList_setIfInBounds]
   omega
 refine key ops.size _ a _ 0 g₀ ?_ h0 ?_
 ·refine ⟨by simp, hS.size, hS.defers, ?_, ?_, ?_, Nat.zero_le _, ?_, fun t v j oj _ _ _ hv => hS.get t v (fkeep_get m oks t v (by rw [hom]; exact hv))⟩
  ·intro i o ho hl
   simp [Array.getElem?_replicate] at hl
  ·intro i hl
   simp [Array.getElem?_replicate] at hl
  ·intro i _; exact Nat.zero_le _
  ·intro t v hw' ht
   have hnd : isDst ops t = false := by
    simp only [isDst, List.any_eq_false, List.mem_range]
    intro j hj
    obtain ⟨oj, hjo⟩ : ∃ o, ops[j]? = some o := ⟨_, Array.getElem?_eq_getElem hj⟩
    rw [hjo]
    simp only
    cases hdj : oj.dst with
    | none => simp
    | some d =>
     simp only
     intro hb
     have := Nat.eq_of_beq_eq_true hb
     subst this
     have := hw' j _ hjo hdj
     simp [Array.getElem?_replicate] at this
   rw [← fdrop_get _ _ t hnd, ← hlive] at ht
   exact hS.get t v (fkeep_get m ks t v ht)
 ·simp
end
/-! ### small words for what a stretch leans on -/
theorem as_i64 {z : Int} (h : -9223372036854775808 ≤ z ∧ z ≤ 9223372036854775807) : Value.int .i64 (IntKind.i64.wrap z) = .int .i64 z := by
 congr 1
 have : (2 : Int) ^ IntKind.i64.bits = 18446744073709551616 := by decide
 have h2 : (2 : Int) ^ (IntKind.i64.bits - 1) = 9223372036854775808 := by decide
 simp only [IntKind.wrap, this, h2, IntKind.signed, Bool.true_and, decide_eq_true_eq]
 split <;> omega
theorem as_t {p : Prop} [Decidable p] (h : p) : Value.bool (decide p) = .bool true := by simp [h]
theorem as_f {p : Prop} [Decidable p] (h : ¬p) : Value.bool (decide p) = .bool false := by simp [h]
theorem as_eq_t {x y : Int} (h : x = y) : Value.bool (x == y) = .bool true := by simp [h]
theorem as_eq_f {x y : Int} (h : x ≠ y) : Value.bool (x == y) = .bool false := by simp [h]
theorem as_ne_t {x y : Int} (h : x ≠ y) : Value.bool (x != y) = .bool true := by simp [h]
theorem test_ne_t {x y : Int} (h : (x != y) = true) : ¬x = y := by simpa using h
theorem test_ne_f {x y : Int} (h : (x != y) = false) : x = y := by simpa using h
theorem as_ne_f {x y : Int} (h : x = y) : Value.bool (x != y) = .bool false := by simp [h]
def vS (s : Sem Value) : Sem Next := do pure (.value (← s))
theorem vS_run {P : Program} {s : Sem Value} {v : Value} {w w' : World} (h : s.run P w = .ok v w') : (vS s).run P w = .ok (.value v) w' := by simp [vS, h]
def closedD (P : Program) : Sem TypeDesc → Option TypeDesc
 | .pure v => some v
 | .program k => closedD P (k P)
 | _ => none
theorem closedD_run {P : Program} {s : Sem TypeDesc} {v : TypeDesc} (h : closedD P s = some v) (w : World) : s.run P w = .ok v w := by
 induction s with
 | pure a => simp [closedD] at h; subst h; rfl
 | program k ih => simp only [closedD] at h; simp only [Sem.run]; exact ih P h
 | _ => simp [closedD] at h
inductive AllO (lo hi : List Nat) (e : Nat) : List (Nat × List Prop) → Prop
 | nil : AllO lo hi e []
 | cons {i : Nat} {ps : List Prop} {l : List (Nat × List Prop)} : (lo.getD i 0 ≤ e → e ≤ hi.getD i 0 → AllP ps) → AllO lo hi e l → AllO lo hi e ((i, ps) :: l)
theorem AllO.mem {lo hi : List Nat} {e : Nat} : ∀ {l : List (Nat × List Prop)}, AllO lo hi e l → ∀ x ∈ l, lo.getD x.1 0 ≤ e → e ≤ hi.getD x.1 0 → AllP x.2
 | _, .nil, x, h => by cases h
 | _, .cons h hs, x, hx => by rcases List.mem_cons.1 hx with rfl | hx; exact h; exact hs.mem x hx
theorem ix_slice {P : Program} {w : World} {T E : TypeId} {size b off len cap j : Nat} {k : IntKind} {i : Int} (hT : closedD P (underlying T) = some (.slice E)) (hs : closedN P (sizeOf E) = some size)
  (hi : i = (j : Int)) (hj : j < len) : (vS (Instr.indexAt T (.slice (some ⟨b, off, none⟩) len cap) (.int k i))).run P w = .ok (.value (.pointer (some ⟨b, off + j * size, none⟩))) w := by
 subst hi
 refine vS_run ?_
 have h1 : (0 : Int) ≤ (j : Int) ∧ (j : Int) < (len : Int) := ⟨by omega, by omega⟩
 have hadd : (⟨b, off, none⟩ : Addr).add (j * size) = ⟨b, off + j * size, none⟩ := by
  unfold Addr.add; split
  ·rename_i h0; rw [h0]; rfl
  ·rfl
 simp [Instr.indexAt, asIntOf, closedD_run hT w, closedN_run hs w, hj, hadd]
section
variable {K : Act → World → Prop} {Q : Exit → Act → World → Prop} {a : Act} {w : World} {i j : Nat}
theorem then_ret (h : Q .ret a w) : Exit.then K Q .ret a w := h
theorem then_exit (h : Q (.exit i) a w) : Exit.then K Q (.exit i) a w := h
theorem inBlock_ret (h : Q .ret a w) : Exit.inBlock i Q .ret a w := h
theorem inBlock_normal (h : Q .normal a w) : Exit.inBlock i Q .normal a w := h
theorem inBlock_hit (h : Q .normal a w) : Exit.inBlock i Q (.exit i) a w := by simp [Exit.inBlock, h]
theorem inBlock_miss (hne : Nat.beq j i = false) (h : Q (.exit j) a w) : Exit.inBlock i Q (.exit j) a w := by
 have : j ≠ i := Nat.ne_of_beq_eq_false hne
 simp [Exit.inBlock, this, h]
theorem xt2 {K' : Act → World → Prop} {F : Fence} {n : Nat} {P : Program} (h : Q .normal a w) : (Code.exit i).wpIn F n P (Exit.then K' (Exit.then K (Exit.inBlock i Q))) a w := wpIn_exit (then_exit (then_exit (inBlock_hit h)))
end
theorem gE {α : Type} {l : List α} {i : Nat} (h : i < l.length := by omega) : ∃ x, l[i]? = some x := ⟨_, List.getElem?_eq_getElem h⟩
theorem hwz {a b c : World} (h : a = b) (e : b = c := by kernel_rfl) : c = a := (h.trans e).symm
def wsAt (ws : List World) (w : World) : Nat → World
 | 0 => match ws with
  | [] => w
  | x :: _ => x
 | e + 1 => match ws with
  | [] => w
  | _ :: l => wsAt l w e
section
variable {F : Fence} {P : Program} {ops : Array Oper} {Q : Exit → Act → World → Prop} {a : Act} {w : World} {n : Nat} {ds : List Deferred} {m : Fm}
theorem eff_at {s s' : Fm} {ws : List World} {wd : World} {items : List Item} {i : Nat} (W W' : World) (h1 : wsAt ws wd (rank (items.map itemEff) i) = W) (h2 : wsAt ws wd (rank (items.map itemEff) i + 1) = W')
  (h : UponAt P ops n s' i W (fun v w' => dstGet ops s i v = some v ∧ w' = W')) :
  UponAt P ops n s' i (wsAt ws wd (rank (items.map itemEff) i)) (fun v w' => dstGet ops s i v = some v ∧ w' = wsAt ws wd (rank (items.map itemEff) i + 1)) := by
 rw [h1, h2]; exact h
theorem Upon.mono {o : Oper} {Post Post' : Value → World → Prop} (h : Upon P o m w Post) (hp : ∀ v w', Post v w' → Post' v w') : Upon P o m w Post' := by
 rcases h with ⟨v, w', hr, h⟩ | ⟨w', hr, h⟩ | ⟨f, args, w1, hr, h⟩ | ⟨l, f, tmps, as', body, w1, hr, h⟩
 ·exact .inl ⟨v, w', hr, hp _ _ h⟩
 ·exact .inr (.inl ⟨w', hr, hp _ _ h⟩)
 ·exact .inr (.inr (.inl ⟨f, args, w1, hr, h.mono fun e w' ⟨v, he, hv⟩ => ⟨v, he, hp _ _ hv⟩⟩))
 ·exact .inr (.inr (.inr ⟨l, f, tmps, as', body, w1, hr, h.mono fun e w' ⟨v, he, hv⟩ => ⟨v, he, hp _ _ hv⟩⟩))
theorem AllN.imp {R R' : Nat → Prop} : ∀ {l : List Nat}, AllN R l → (∀ i, R i → R' i) → AllN R' l
 | _, .nil, _ => .nil
 | _, .cons h hs, f => .cons (f _ h) (hs.imp f)
theorem region_fn2 (hW : Wide F) {id : Nat} (items : List Item) (lo hi ms effs : List Nat) (E : Nat) (s : Fm) (ws : List World) (wd : World) (obls : World → List (Nat × List Prop)) (ks oks : List Nat)
  (hS : St n ds m a) (hm : P.follows .mixedOrders = true)
  (hc : chk ops ⟨items.map itemEff, lo, hi, ms⟩ (fkeep m oks) E = true) (hN : Nat.beq items.length ops.size = true) (hD : dstsOk ops n = true)
  (hq : ∀ w, qAll P w (em ops ⟨items.map itemEff, lo, hi, ms⟩ (fkeep m oks) s) ops items 0 = some (obls w, sVals s ops items 0))
  (hE : (List.range ops.size).filter (Plan.isEff ⟨items.map itemEff, lo, hi, ms⟩) = effs)
  (hlive : fkeep m ks = fdrop (isDst ops) s)
  (h0 : w.drew = wsAt ws wd 0)
  (hobl : ∀ e w, w = wsAt ws wd e → AllO lo hi e (obls w))
  (heff : AllN (fun i => UponAt P ops n (em ops ⟨items.map itemEff, lo, hi, ms⟩ (fkeep m oks) s i) i (wsAt ws wd (rank (items.map itemEff) i)) (fun v w' => dstGet ops s i v = some v ∧ w' = wsAt ws wd (rank (items.map itemEff) i + 1))) effs)
  (hend : ∀ a' w', St n ds s a' → w' = wsAt ws wd E → Q .normal a' w') : (Code.region id ops true).wpIn F 0 P Q a w := by
 refine region_any (G := Unit) hW items lo hi ms effs E (fun _ => s) (fun e _ w => w = wsAt ws wd e) (fun _ => obls) () ks oks hS hm hc hN hD (fun _ w => hq w) hE hlive h0 ?_ ?_ (fun _ a' w' h1 h2 => hend a' w' h1 h2)
 ·intro e _ w hw; exact (hobl e w hw).mem
 ·refine heff.imp fun i hi _ w hw => ?_
  subst hw
  obtain ⟨o, ho, hu⟩ := hi
  exact ⟨o, ho, hu.mono fun v w' ⟨h1, h2⟩ => ⟨(), rfl, h1, h2⟩⟩
end
section
variable {F : Fence} {P : Program} {ops : Array Oper} {Q : Exit → Act → World → Prop} {a : Act} {w : World} {n : Nat} {ds : List Deferred} {m : Fm}
inductive AllP2 (R : Nat → Nat → Prop) : List (Nat × Nat) → Prop
 | nil : AllP2 R []
 | cons {i e : Nat} {l : List (Nat × Nat)} : R i e → AllP2 R l → AllP2 R ((i, e) :: l)
theorem AllP2.to {R : Nat → Nat → Prop} {rk : Nat → Nat} : ∀ {l : List Nat}, AllP2 R (l.map fun i => (i, rk i)) → AllN (fun i => R i (rk i)) l
 | [], _ => .nil
 | i :: l, .cons h hs => .cons h (AllP2.to (l := l) hs)
theorem region_gh2 {G : Type} (hW : Wide F) {id : Nat} (items : List Item) (lo hi ms effs : List Nat) (prs : List (Nat × Nat)) (E : Nat) (σ : G → Fm) (ws : G → List World) (wd : World) (H : Nat → G → Prop) (obls : G → World → List (Nat × List Prop)) (g₀ : G) (ks oks : List Nat)
  (hS : St n ds m a) (hm : P.follows .mixedOrders = true)
  (hc : chk ops ⟨items.map itemEff, lo, hi, ms⟩ (fkeep m oks) E = true) (hN : Nat.beq items.length ops.size = true) (hD : dstsOk ops n = true)
  (hq : ∀ g w, qAll P w (em ops ⟨items.map itemEff, lo, hi, ms⟩ (fkeep m oks) (σ g)) ops items 0 = some (obls g w, sVals (σ g) ops items 0))
  (hE : (List.range ops.size).filter (Plan.isEff ⟨items.map itemEff, lo, hi, ms⟩) = effs)
  (hlive : fkeep m ks = fdrop (isDst ops) (σ g₀))
  (h0 : w.drew = wsAt (ws g₀) wd 0) (hH0 : H 0 g₀)
  (hobl : ∀ e g w, w = wsAt (ws g) wd e → H e g → AllO lo hi e (obls g w))
  (hpr : (effs.map fun i => (i, rank (items.map itemEff) i)) = prs)
  (heff : AllP2 (fun i e => ∀ g, H e g → UponAt P ops n (em ops ⟨items.map itemEff, lo, hi, ms⟩ (fkeep m oks) (σ g) i) i (wsAt (ws g) wd e) (fun v w' => ∃ g', fdrop (late ops ⟨items.map itemEff, lo, hi, ms⟩ i) (σ g) = fdrop (late ops ⟨items.map itemEff, lo, hi, ms⟩ i) (σ g') ∧ dstGet ops (σ g') i v = some v ∧ w' = wsAt (ws g') wd (e + 1) ∧ H (e + 1) g')) prs)
  (hend : ∀ g a' w', St n ds (σ g) a' → w' = wsAt (ws g) wd E → H E g → Q .normal a' w') : (Code.region id ops true).wpIn F 0 P Q a w := by
 refine region_any (G := G) hW items lo hi ms effs E σ (fun e g w => w = wsAt (ws g) wd e ∧ H e g) obls g₀ ks oks hS hm hc hN hD hq hE hlive ⟨h0, hH0⟩ ?_ ?_ (fun g a' w' h1 h2 => hend g a' w' h1 h2.1 h2.2)
 ·intro e g w hw; exact (hobl e g w hw.1 hw.2).mem
 ·subst hpr
  refine (AllP2.to heff).imp fun i hi g w hw => ?_
  obtain ⟨o, ho, hu⟩ := hi g hw.2
  rw [hw.1]
  exact ⟨o, ho, hu.mono fun v w' ⟨g', h1, h2, h3, h4⟩ => ⟨g', h1, h2, h3, h4⟩⟩
def hAt : List Prop → Nat → Prop
 | [], _ => True
 | h :: _, 0 => h
 | _ :: l, e + 1 => hAt l e
theorem eff_gh {s : Fm} {ws : List World} {wd : World} {r i : Nat} (W : World) (h1 : wsAt ws wd r = W) {Post : Value → World → Prop} (h : UponAt P ops n s i W Post) : UponAt P ops n s i (wsAt ws wd r) Post := by
 rw [h1]; exact h
end
section
variable {P : Program} {ops : Array Oper} {Q : Exit → Act → World → Prop} {a : Act} {w : World} {n : Nat} {ds : List Deferred} {m : Fm}
/-! shorter forms, for what is printed -/
theorem sdq {id : Nat} {y : Code} (R : Nat) (cs : List Cmd) (ps : List Prop) (dl : Fm) (dr : List Nat) (hS : St n ds m a) (hp : AllP ps)
  (hk : ∀ a', St n ds (fup m dl dr) a' → y.wpIn Fence.wide 0 P Q a' w) (h : evSegK P w ops n cs 0 m ((fup m dl dr).map Prod.fst) = some (ps, fup m dl dr) := by kernel_rfl)
  (hj : 0 + cs.length = R := by kernel_rfl) (hz : ops.size = R := by kernel_rfl) : (Code.seq (Code.region id ops false) y).wpIn Fence.wide 0 P Q a w :=
 sq fun _ hK => region R hz (seg ww cs _ ps _ R 0 hS h hj (by rw [← hj]; omega) hp fun a' hS' => seg_end (hK _ _ (hk a' hS')))
theorem ebx {i : Nat} (r : Nat) (cs : Array Value) (T : TypeId) (d : Option Nat) (hS : St n ds m a)
  (hk : ∀ a' w', w' = w.alloc (.cells cs T) → St n ds (fput m d (.pointer (some ⟨w.heap.size, 0, none⟩))) a' → wpOpsIn Fence.wide 0 P ops Q (List.range' (i + 1) r) a' w')
  (ho : boxOf P ops n m i = some (cs, T, d) := by kernel_rfl) : wpOpsIn Fence.wide 0 P ops Q (List.range' i (r + 1)) a w := eff_box ww hS ho hk
theorem est {i : Nat} (r b off : Nat) (vs : List Value) {T : TypeId} {cs : Array Value} (hS : St n ds m a) (hB : Blk w b T cs)
  (hk : ∀ a' w', w' = upd w b T (setAt cs off vs) → St n ds m a' → wpOpsIn Fence.wide 0 P ops Q (List.range' (i + 1) r) a' w')
  (ho : storeOf P ops n m i = some (b, off, vs) := by kernel_rfl) (hle : off + vs.length ≤ cs.size := by simp) : wpOpsIn Fence.wide 0 P ops Q (List.range' i (r + 1)) a w := eff_store ww hS ho hB hle hk
theorem ecl {i : Nat} {f : FuncId} {R : Ending → World → Prop} (r : Nat) (d : Option Nat) (hS : St n ds m a)
  (hc : ∀ args w, (callFunc f args).run P w = .ok (.enter f args) w) (args : Array Value)
  (hC : Calls P f args w R)
  (hk : ∀ e w', R e w' → ∃ v, e = .returned v ∧ ∀ a', St n ds (fput m d v) a' → wpOpsIn Fence.wide 0 P ops Q (List.range' (i + 1) r) a' w')
  (ho : callOf ops n m i = some (.func f, args.toList, #[], d) := by kernel_rfl) : wpOpsIn Fence.wide 0 P ops Q (List.range' i (r + 1)) a w :=
 eff_call ww hS ho hc args (by simp) hC hk
theorem cbd {f : FuncId} {fn : Func} {c : Code} {args : Array Value} {R : Ending → World → Prop} (n : Nat) (m : Fm)
  (hf : P.funcs[f]? = some fn) (hb : fn.body = some c)
  (h : ∀ a, St n [] m a → c.wpIn Fence.wide 0 P (bodyPost P fn R) a w) (hn : fn.ntmps = n := by kernel_rfl) (ha : Nat.ble args.size n = true := by kernel_rfl) (hm : finit args.toList 0 = m := by kernel_rfl) : Calls P f args w R :=
 calls_body n m hf hb hn ha hm h
theorem Blk.nw {w' : World} {T : TypeId} {cs : Array Value} (h : w' = w.alloc (.cells cs T)) : Blk w' w.heap.size T cs := h ▸ Blk.new w T cs
theorem Blk.up {w' : World} {b : Nat} {T T' : TypeId} {cs cs' : Array Value} (h : Blk w b T cs) (hw : w' = Vc.upd w b T' cs') : Blk w' b T' cs' := hw ▸ h.upd T' cs'
theorem Ext.al {M : List Nat} {w0 w' : World} {o : Obj} (h : Ext M w0 w) (hw : w' = w.alloc o) : Ext M w0 w' := hw ▸ h.alloc o
theorem Ext.ui {M : List Nat} {w0 w' : World} {b : Nat} {T : TypeId} {cs : Array Value} (h : Ext M w0 w) (hw : w' = Vc.upd w b T cs) (hb : w0.heap.size ≤ b) : Ext M w0 w' := hw ▸ h.updIn (.inr hb) T cs
theorem Ext.t1 {M : List Nat} {b : Nat} {w0 w' : World} (h : Ext M w0 w) (h' : Ext [b] w w') (hb : w0.heap.size ≤ b) : Ext M w0 w' :=
 h.trans h' fun c hc => by simp at hc; rw [hc]; exact .inr hb
end
section
variable {F : Fence} {P : Program} {ops : Array Oper} {Q : Exit → Act → World → Prop} {a : Act} {w : World} {n : Nat} {ds : List Deferred} {m : Fm}
theorem AllP.c {p : Prop} {ps : List Prop} (h : p) (hs : AllP ps) : AllP (p :: ps) := .cons h hs
theorem AllN.c {R : Nat → Prop} {i : Nat} {l : List Nat} (h : R i) (hs : AllN R l) : AllN R (i :: l) := .cons h hs
theorem AllP2.c {R : Nat → Nat → Prop} {i e : Nat} {l : List (Nat × Nat)} (h : R i e) (hs : AllP2 R l) : AllP2 R ((i, e) :: l) := .cons h hs
theorem AllO.c {lo hi : List Nat} {e : Nat} {i : Nat} {ps : List Prop} {l : List (Nat × List Prop)} (h : lo.getD i 0 ≤ e → e ≤ hi.getD i 0 → AllP ps) (hs : AllO lo hi e l) : AllO lo hi e ((i, ps) :: l) := .cons h hs
theorem Blk.k {b : Nat} {T : TypeId} {cs : Array Value} (h : Blk w b T cs) (i : Nat) {ps : List Prop} (hs : AllP ps) {v : Value} (hv : cs[i]? = some v := by rfl) : AllP ((w.cell? ⟨b, i, none⟩ = some v) :: ps) := .cons (h.cell i hv) hs
theorem as6 (z : Int) (h : -9223372036854775808 ≤ z ∧ z ≤ 9223372036854775807 := by omega) : AllP [Value.int .i64 (IntKind.i64.wrap z) = .int .i64 z] := .cons (as_i64 h) .nil
theorem ixs {T : TypeId} {b off len cap : Nat} {k : IntKind} (E : TypeId) (size j : Nat) (hj : j < len := by omega) (hT : closedD P (underlying T) = some (.slice E) := by kernel_rfl) (hs : closedN P (sizeOf E) = some size := by kernel_rfl) :
  (vS (Instr.indexAt T (.slice (some ⟨b, off, none⟩) len cap) (.int k (j : Int)))).run P w = .ok (.value (.pointer (some ⟨b, off + j * size, none⟩))) w := ix_slice hT hs rfl hj
theorem ixz {T : TypeId} {b off len cap : Nat} {k : IntKind} (E : TypeId) (size : Nat) (z : Int) (hj : z.toNat < len := by omega) (h0 : 0 ≤ z := by omega) (hT : closedD P (underlying T) = some (.slice E) := by kernel_rfl) (hs : closedN P (sizeOf E) = some size := by kernel_rfl) :
  (vS (Instr.indexAt T (.slice (some ⟨b, off, none⟩) len cap) (.int k z))).run P w = .ok (.value (.pointer (some ⟨b, off + z.toNat * size, none⟩))) w := ix_slice hT hs (Int.toNat_of_nonneg h0).symm hj
theorem sge {y : Code} {K : Act → World → Prop} {i : Nat} (hK : ∀ a w, y.wpIn F 0 P Q a w → K a w) (h : y.wpIn F 0 P Q a w) : wpOpsIn F 0 P ops (Exit.then K Q) (List.range' i 0) a w := seg_end (hK _ _ h)
theorem fn3 {id : Nat} (items : List Item) (lo hi ms effs : List Nat) (E : Nat) (s : Fm) (ws : List World) (wd : World) (obls : World → List (Nat × List Prop)) (ks oks : List Nat)
  (hS : St n ds m a)
  (hq : ∀ w, qAll P w (em ops ⟨items.map itemEff, lo, hi, ms⟩ (fkeep m oks) s) ops items 0 = some (obls w, sVals s ops items 0))
  (hobl : ∀ e w, w = wsAt ws wd e → AllO lo hi e (obls w))
  (heff : AllN (fun i => UponAt P ops n (em ops ⟨items.map itemEff, lo, hi, ms⟩ (fkeep m oks) s i) i (wsAt ws wd (rank (items.map itemEff) i)) (fun v w' => dstGet ops s i v = some v ∧ w' = wsAt ws wd (rank (items.map itemEff) i + 1))) effs)
  (hend : ∀ a' w', St n ds s a' → w' = wsAt ws wd E → Q .normal a' w')
  (hm : P.follows .mixedOrders = true := by kernel_rfl)
  (hc : chk ops ⟨items.map itemEff, lo, hi, ms⟩ (fkeep m oks) E = true := by kernel_rfl) (hN : Nat.beq items.length ops.size = true := by kernel_rfl) (hD : dstsOk ops n = true := by kernel_rfl)
  (hE : (List.range ops.size).filter (Plan.isEff ⟨items.map itemEff, lo, hi, ms⟩) = effs := by kernel_rfl)
  (hlive : fkeep m ks = fdrop (isDst ops) s := by kernel_rfl)
  (h0 : w.drew = wsAt ws wd 0 := by kernel_rfl) : (Code.region id ops true).wpIn Fence.wide 0 P Q a w :=
 region_fn2 ww items lo hi ms effs E s ws wd obls ks oks hS hm hc hN hD hq hE hlive h0 hobl heff hend
theorem gh3 {G : Type} {id : Nat} (items : List Item) (lo hi ms effs : List Nat) (prs : List (Nat × Nat)) (E : Nat) (σ : G → Fm) (ws : G → List World) (wd : World) (H : Nat → G → Prop) (obls : G → World → List (Nat × List Prop)) (g₀ : G) (ks oks : List Nat)
  (hS : St n ds m a)
  (hq : ∀ g w, qAll P w (em ops ⟨items.map itemEff, lo, hi, ms⟩ (fkeep m oks) (σ g)) ops items 0 = some (obls g w, sVals (σ g) ops items 0))
  (hH0 : H 0 g₀)
  (hobl : ∀ e g w, w = wsAt (ws g) wd e → H e g → AllO lo hi e (obls g w))
  (heff : AllP2 (fun i e => ∀ g, H e g → UponAt P ops n (em ops ⟨items.map itemEff, lo, hi, ms⟩ (fkeep m oks) (σ g) i) i (wsAt (ws g) wd e) (fun v w' => ∃ g', fdrop (late ops ⟨items.map itemEff, lo, hi, ms⟩ i) (σ g) = fdrop (late ops ⟨items.map itemEff, lo, hi, ms⟩ i) (σ g') ∧ dstGet ops (σ g') i v = some v ∧ w' = wsAt (ws g') wd (e + 1) ∧ H (e + 1) g')) prs)
  (hend : ∀ g a' w', St n ds (σ g) a' → w' = wsAt (ws g) wd E → H E g → Q .normal a' w')
  (hm : P.follows .mixedOrders = true := by kernel_rfl)
  (hc : chk ops ⟨items.map itemEff, lo, hi, ms⟩ (fkeep m oks) E = true := by kernel_rfl)
  (hN : Nat.beq items.length ops.size = true := by kernel_rfl)
  (hD : dstsOk ops n = true := by kernel_rfl)
  (hE : (List.range ops.size).filter (Plan.isEff ⟨items.map itemEff, lo, hi, ms⟩) = effs := by kernel_rfl)
  (hlive : fkeep m ks = fdrop (isDst ops) (σ g₀) := by kernel_rfl)
  (h0 : w.drew = wsAt (ws g₀) wd 0 := by kernel_rfl)
  (hpr : (effs.map fun i => (i, rank (items.map itemEff) i)) = prs := by kernel_rfl) : (Code.region id ops true).wpIn Fence.wide 0 P Q a w :=
 region_gh2 ww items lo hi ms effs prs E σ ws wd H obls g₀ ks oks hS hm hc hN hD hq hE hlive h0 hH0 hobl hpr heff hend
end
end Go.Vc
