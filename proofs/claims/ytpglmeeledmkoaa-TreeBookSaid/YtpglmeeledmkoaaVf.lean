/- Loops over functions, in the calculus of sparse frames: what an iterator promises and what a round promises. It states nothing of any program. -/
import Derived.Test.YtpglmeeledmkoaaVc
namespace Go.Vc
open Go

/-! ### the blocks of book-keeping -/

def Dfr (w : World) (D : Nat) : Prop := w.heap[D]? = some (.deferred (some []))
def Rec (w : World) (l : Nat) : Prop := ∃ r, w.heap[l]? = some (.loop r)
def dmark (D : Nat) : Deferred := { target := .collected D, args := #[] }

section
variable {w w' w0 : World} {b l D : Nat} {M : List Nat} {o : Obj}

theorem Ext.heap (h : Ext M w w') (hb : w.heap[b]? = some o) (hM : b ∉ M) : w'.heap[b]? = some o := (h.keep b (Array.getElem?_eq_some_iff.1 hb).1 hM).trans hb
theorem Dfr.ext (h : Dfr w D) (hE : Ext M w w') (hM : D ∉ M) : Dfr w' D := hE.heap h hM
theorem Dfr.lt (h : Dfr w D) : D < w.heap.size := (Array.getElem?_eq_some_iff.1 h).1
theorem Rec.ext (h : Rec w l) (hE : Ext M w w') (hM : l ∉ M) : Rec w' l := h.elim fun r hr => ⟨r, hE.heap hr hM⟩
theorem Rec.lt (h : Rec w l) : l < w.heap.size := h.elim fun _ hr => (Array.getElem?_eq_some_iff.1 hr).1
theorem Dfr.ne_blk (h : Dfr w D) {T : TypeId} {cs : Array Value} (h' : Blk w b T cs) : D ≠ b := fun e => by
  subst e; have := (show w.heap[D]? = _ from h).symm.trans h'; simp at this
theorem Rec.ne_blk (h : Rec w l) {T : TypeId} {cs : Array Value} (h' : Blk w b T cs) : l ≠ b := fun e => by
  subst e; obtain ⟨r, hr⟩ := h; have := hr.symm.trans h'; simp at this
theorem Ext.putIn (h : Ext M w0 w) (hb : b ∈ M ∨ w0.heap.size ≤ b) (o : Obj) : Ext M w0 (w.putObj b o) :=
  ⟨h.os, h.tape, h.output, by simpa using h.size, fun k hk hn => by
    have hne : k ≠ b := fun e => by subst e; rcases hb with h1 | h1; exact hn h1; omega
    rw [World.putObj_heap_other hne]; exact h.keep k hk hn⟩
theorem Ext.put (w : World) (b : Nat) (o : Obj) : Ext [b] w (w.putObj b o) := (Ext.refl [b] w).putIn (.inl (by simp)) o
end

/-! ### the two parties -/

/-- what the ranging party knows abides whatever turns none of its blocks, C, and none that is elder than B -/
def Stab {α : Type} (B : Nat) (J : α → List Nat → World → Prop) : Prop :=
  ∀ s C M W W', J s C W → Ext M W W' → (∀ b ∈ M, B ≤ b ∧ b ∉ C) → J s C W'

def Fresh (N : Nat) (C C' : List Nat) : Prop := ∀ b ∈ C', b ∈ C ∨ N ≤ b
def Lie (W : World) (C : List Nat) : Prop := ∀ b ∈ C, b < W.heap.size

theorem Fresh.refl (N : Nat) (C : List Nat) : Fresh N C C := fun _ h => .inl h
theorem Fresh.trans {N N' : Nat} {C C' C'' : List Nat} (h : Fresh N C C') (h' : Fresh N' C' C'') (hN : N ≤ N') : Fresh N C C'' := fun b hb => by
  rcases h' b hb with h1 | h1
  · exact h b h1
  · exact .inr (Nat.le_trans hN h1)
theorem Fresh.mono {N N' : Nat} {C C' : List Nat} (h : Fresh N C C') (hN : N' ≤ N) : Fresh N' C C' := fun b hb => (h b hb).imp id (Nat.le_trans hN)
theorem Lie.ext {M C : List Nat} {W W' : World} (h : Lie W C) (hE : Ext M W W') : Lie W' C := fun b hb => Nat.lt_of_lt_of_le (h b hb) hE.size
theorem Ext.fresh {C C' : List Nat} {w0 w w' : World} (h : Ext C w0 w) (h' : Ext C' w w') (hf : Fresh w0.heap.size C C') : Ext C w0 w' := h.trans h' hf

/-- a call of the loop's yield -/
def YCall (P : Program) (l : Nat) (args : List Value) (W : World) (R : Bool → World → Prop) : Prop :=
  ∃ fn tmps as body, (Instr.yield l args.toArray).run P W = .ok (.round l fn tmps as body) W ∧ RoundIn Fence.wide 0 P l fn tmps as body W fun e w' => ∃ b, e = .returned (.bool b) ∧ R b w'

theorem YCall.mono {P : Program} {l : Nat} {args : List Value} {W : World} {R R' : Bool → World → Prop} (h : YCall P l args W R) (hr : ∀ b w, R b w → R' b w) : YCall P l args W R' := by
  obtain ⟨fn, tmps, as, body, hy, hR⟩ := h
  exact ⟨fn, tmps, as, body, hy, hR.mono fun e w' ⟨b, he, hb⟩ => ⟨b, he, hr _ _ hb⟩⟩

/-- what a round owes: blocks of its own, turned and new; on: J; no more: Jx -/
def Owes {α : Type} (J Jx : List α → List Nat → World → Prop) (s : List α) (C : List Nat) (W : World) (r : Bool) (W' : World) : Prop :=
  ∃ C', Ext C W W' ∧ Fresh W.heap.size C C' ∧ Lie W' C' ∧ (match r with | true => J s C' W' | false => Jx s C' W')

/-- ITERATOR g, captured lb, TELLS xs: whoever ranges over it; T: the blocks that it reads -/
def SeqOk {α : Type} (P : Program) (g : Nat) (lb : List Value) (enc : α → List Value) (xs : List α) (T : Nat → Prop) (W : World) : Prop :=
  ∀ (l : Nat) (J Jx : List α → List Nat → World → Prop) (C : List Nat), Stab W.heap.size J → Stab W.heap.size Jx → (∀ b ∈ C, ¬T b) → Lie W C → J [] C W →
    (∀ pre x post C' W', xs = pre ++ x :: post → J pre C' W' → Lie W' C' → Fresh W.heap.size C C' → YCall P l (enc x) W' (Owes J Jx (pre ++ [x]) C' W')) →
    Calls P g (.func (.yield l) #[] #[] :: lb).toArray W fun e W' => (∃ v, e = .returned v) ∧ ∃ C', Ext C W W' ∧ Fresh W.heap.size C C' ∧ Lie W' C' ∧ (J xs C' W' ∨ ∃ pre, pre <+: xs ∧ Jx pre C' W')

section
variable {F : Fence} {P : Program} {ops : Array Oper} {Q : Exit → Act → World → Prop} {a : Act} {w : World} {n : Nat} {ds : List Deferred} {m : Fm}

theorem upon_yield {i l : Nat} {vs : List Value} {cap : Array Value} {d : Option Nat} {R : Bool → World → Prop} {Post : Value → World → Prop}
    (ho : callOf ops n m i = some (.yield l, vs, cap, d)) (hC : YCall P l vs w R) (hp : ∀ b w', R b w' → Post (.bool b) w') : UponAt P ops n m i w Post := by
  unfold callOf at ho
  split at ho
  · rename_i o he
    split at ho
    · rename_i c hop
      split at ho
      · rename_i f' hcal
        split at ho
        · rename_i fn first cap' us hf hus
          simp only [Option.some.injEq, Prod.mk.injEq] at ho
          obtain ⟨rfl, rfl, rfl, rfl⟩ := ho
          have hev : fenv m f' = .func (.yield l) first cap' := by simp [fenv, hf]
          have hmap : c.args.map (fenv m) = us.toArray := by
            rw [← evs_env _ _ hus]; apply Array.ext'; simp
          obtain ⟨fn', tmps, as, body, hy, hR⟩ := hC
          have hargs' : first ++ us.toArray = (first.toList ++ us).toArray := by simp
          refine ⟨o, he, .inr (.inr (.inr ⟨l, fn', tmps, as, body, w, ?_, hR.mono fun e w' ⟨b, he, hb⟩ => ⟨.bool b, he, hp _ _ hb⟩⟩))⟩
          simp only [execOp, hop, resolve, hcal, hev, hmap, Deferred.ofValue, invoke, Sem.run_bind, Sem.run_pure, Result.andThen_ok, hargs', hy]
        · cases ho
      · cases ho
    · cases ho
  · cases ho

theorem eff_yield (hW : Wide F) {i r l : Nat} {vs : List Value} {cap : Array Value} {d : Option Nat} {R : Bool → World → Prop} (hS : St n ds m a)
    (ho : callOf ops n m i = some (.yield l, vs, cap, d)) (hC : YCall P l vs w R)
    (hk : ∀ b w' a', R b w' → St n ds (fput m d (.bool b)) a' → wpOpsIn F 0 P ops Q (List.range' (i + 1) r) a' w') : wpOpsIn F 0 P ops Q (List.range' i (r + 1)) a w := by
  have hd : ∀ o, ops[i]? = some o → o.dst = d := fun o h => by
    unfold callOf at ho
    split at ho
    · rename_i o' he
      have := (effOf_spec he).1
      rw [h] at this; cases this
      split at ho
      · split at ho
        · split at ho
          · simp only [Option.some.injEq, Prod.mk.injEq] at ho; exact ho.2.2.2
          · cases ho
        · cases ho
      · cases ho
    · cases ho
  refine eff_upon hW hS (upon_yield (Post := fun v w' => ∃ b, v = .bool b ∧ R b w') ho hC fun b w' h => ⟨b, rfl, h⟩) ?_
  rintro o hoi v w' a' ⟨b, rfl, hR⟩ hS'
  rw [hd o hoi] at hS'
  exact hk b w' a' hR hS'

/-! ### the ranging party -/

def fputs (m : Fm) : List Nat → List Value → Fm
  | t :: ts, v :: vs => fputs ((t, v) :: m) ts vs
  | _, _ => m

def allLt (n : Nat) : List Nat → Bool
  | [] => true
  | t :: ts => match Nat.blt t n with
    | true => allLt n ts
    | false => false

theorem fputs_st {ds : List Deferred} : ∀ (ts : List Nat) (vs : List Value) (m : Fm) (tmps : Array Value), allLt n ts = true → St n ds m { tmps := tmps, defers := ds } →
    St n ds (fputs m ts vs) { tmps := (ts.zip vs).foldl (fun t (p, v) => t.setIfInBounds p v) tmps, defers := ds }
  | [], _, m, tmps, _, h => h
  | _ :: _, [], m, tmps, _, h => h
  | t :: ts, v :: vs, m, tmps, hl, h => by
    simp only [allLt] at hl
    split at hl
    · rename_i ht
      have := h.put (d := some t) v (by simpa [dstOk] using ht)
      exact fputs_st ts vs _ _ hl this
    · cases hl

theorem zip_foldl (ps : Array Nat) (vs : Array Value) (tmps : Array Value) :
    (ps.zip vs).foldl (fun t (p, v) => t.setIfInBounds p v) tmps = (ps.toList.zip vs.toList).foldl (fun t (p, v) => t.setIfInBounds p v) tmps := by
  rw [← Array.foldl_toList, Array.toList_zip]

/-- how a round's body may be left -/
def left {α : Type} (I : List α → List Nat → World → Prop) (Ix : Code → List α → List Nat → World → Prop) (s : List α) (C : List Nat) (W : World) : Exit → Act → World → Prop := fun e _ W' =>
  ∃ C', Ext C W W' ∧ Fresh W.heap.size C C' ∧ Lie W' C' ∧ (match e with
    | .normal => I s C' W'
    | .ret => Ix .ret s C' W'
    | .exit id => Ix (.exit id) s C' W'
    | .goto t => Ix (.goto t) s C' W'
    | _ => False)

theorem left_normal {α : Type} {I : List α → List Nat → World → Prop} {Ix : Code → List α → List Nat → World → Prop} {s : List α} {C C' : List Nat} {W W' : World} {a : Act}
    (h1 : Ext C W W') (h2 : Fresh W.heap.size C C') (h3 : Lie W' C') (h4 : I s C' W') : left I Ix s C W .normal a W' := ⟨C', h1, h2, h3, h4⟩
/-- the heart of both loops: the rounds, at record l -/
theorem ranged {α : Type} {fn : FuncId} {tmps : Array Value} {ps : Array Tmp} {as body : Code} {gf l D B : Nat} {lb : List Value} {W1 : World}
    {enc : α → List Value} {xs : List α} {T : Nat → Prop} {I : List α → List Nat → World → Prop} {Ix : Code → List α → List Nat → World → Prop} {C : List Nat} {mx : α → Fm}
    (rec : LoopState → Option Code → Loop) (hrec : rec = fun st pe => { state := st, pending := pe, fn, tmps := tmps, params := ps, assign := as, body, defers := D })
    (hseq : SeqOk P gf lb enc xs T W1) (hl1 : W1.heap[l]? = some (.loop (rec .ready none))) (hlB : B ≤ l) (hB : B ≤ W1.heap.size) (hlC : l ∉ C) (hTl : ¬T l) (hCT : ∀ b ∈ C, ¬T b) (hC : Lie W1 C)
    (hps : ∀ x, (enc x).length = ps.size) (hI : Stab B I) (hIx : ∀ c, Stab B (Ix c)) (h0 : I [] C W1) (hSt : St n [] m { tmps := tmps, defers := [] }) (hpl : allLt n ps.toList = true)
    (hassign : ∀ x (a' : Act) W (K : Act → World → Prop), St n [] (fputs m ps.toList (enc x)) a' → (∀ a'', St n [] (mx x) a'' → K a'' W) → as.wpIn (Fence.wide.inRound l) 0 P (Exit.then K (fun _ _ _ => False)) a' W)
    (hround : ∀ pre x post C' W a', xs = pre ++ x :: post → I pre C' W → Lie W C' → Fresh W1.heap.size C C' → l ∉ C' → Rec W l → Ext (l :: C) W1 W → St n [] (mx x) a' → body.wpIn (Fence.wide.inRound l) 0 P (left I Ix (pre ++ [x]) C' W) a' W) :
    Calls P gf (.func (.yield l) #[] #[] :: lb).toArray W1 fun e W2 => (∃ v, e = .returned v) ∧ ∃ C' jump W3, (Instr.endLoop l).run P W2 = .ok jump W3 ∧ Ext (l :: C) W1 W3 ∧ Fresh W1.heap.size C C' ∧ Lie W3 C' ∧ l ∉ C' ∧
      ((jump = none ∧ I xs C' W3) ∨ ∃ c pre, jump = some c ∧ pre <+: xs ∧ Ix c pre C' W3) := by
  have hlt : l < W1.heap.size := (Array.getElem?_eq_some_iff.1 hl1).1
  have hnew : ∀ {C' : List Nat}, Fresh W1.heap.size C C' → l ∉ C' := fun h hm => by
    rcases h l hm with h1 | h1
    · exact hlC h1
    · omega
  let J : List α → List Nat → World → Prop := fun s Cf W => ∃ C', Cf = l :: C' ∧ I s C' W ∧ Lie W C' ∧ Fresh W1.heap.size C C' ∧ W.heap[l]? = some (.loop (rec .ready none)) ∧ Ext (l :: C) W1 W
  let Jx : List α → List Nat → World → Prop := fun s Cf W => ∃ C' c, Cf = l :: C' ∧ Ix c s C' W ∧ Lie W C' ∧ Fresh W1.heap.size C C' ∧ W.heap[l]? = some (.loop (rec .done (some c))) ∧ Ext (l :: C) W1 W
  have hfr : ∀ {C' M : List Nat} {W : World}, (∀ b ∈ M, W1.heap.size ≤ b ∧ b ∉ l :: C') → (∀ b ∈ M, B ≤ b ∧ b ∉ C') := fun h b hb => ⟨Nat.le_trans hB (h b hb).1, fun hm => (h b hb).2 (by simp [hm])⟩
  have hJ : Stab W1.heap.size J := by
    rintro s Cf M W W' ⟨C', rfl, hi, hli, hf, hl, hE⟩ hE' hM
    exact ⟨C', rfl, hI _ _ _ _ _ hi hE' (hfr (W := W) hM), hli.ext hE', hf, hE'.heap hl (fun hm => (hM _ hm).2 (by simp)), hE.trans hE' (fun b hb => .inr (hM b hb).1)⟩
  have hJx : Stab W1.heap.size Jx := by
    rintro s Cf M W W' ⟨C', c, rfl, hi, hli, hf, hl, hE⟩ hE' hM
    exact ⟨C', c, rfl, hIx c _ _ _ _ _ hi hE' (hfr (W := W) hM), hli.ext hE', hf, hE'.heap hl (fun hm => (hM _ hm).2 (by simp)), hE.trans hE' (fun b hb => .inr (hM b hb).1)⟩
  refine (hseq l J Jx (l :: C) hJ hJx (fun b hb => by rcases List.mem_cons.1 hb with rfl | hb; exact hTl; exact hCT b hb)
    (fun b hb => by rcases List.mem_cons.1 hb with rfl | hb; exact hlt; exact hC b hb) ⟨C, rfl, h0, hC, Fresh.refl _ _, hl1, Ext.refl _ _⟩ ?_).mono ?_
  · rintro pre x post Cf W hxs ⟨C', rfl, hi, hli, hf, hl, hE⟩ _ _
    have hy := run_yield (P := P) (args := (enc x).toArray) hl (by rw [hrec]; simpa using hps x)
    rw [hrec] at hy
    refine ⟨fn, _, as, body, hy, roundIn_of_wpIn trivial (hassign x _ W _ ?_ ?_)⟩
    · rw [zip_foldl]; exact fputs_st _ _ _ _ hpl hSt
    · intro a'' hS''
      refine ⟨_, run_beginRound hl (by rw [hrec]), ?_⟩
      generalize hW2 : W.putObj l (Obj.loop { rec .ready none with state := .busy }) = W2
      have hE2 : Ext [l] W W2 := hW2 ▸ Ext.put W l _
      have hl2 : W2.heap[l]? = some (.loop { rec .ready none with state := .busy }) := by rw [← hW2]; exact World.putObj_heap_same (Array.getElem?_eq_some_iff.1 hl).1
      have hi2 : I pre C' W2 := hI _ _ _ _ _ hi hE2 (fun b hb => by simp at hb; subst hb; exact ⟨hlB, hnew hf⟩)
      have hsz : W2.heap.size = W.heap.size := by rw [← hW2]; simp
      refine wpIn_mono (hround pre x post C' W2 a'' hxs hi2 (hli.ext hE2) hf (hnew hf) ⟨_, hl2⟩ (hE.trans hE2 (fun b hb => .inl (by simp at hb; simp [hb]))) hS'') ?_
      have fin : ∀ (jump : Option Code) (W3 : World) (C'' : List Nat), Ext C' W2 W3 → Fresh W2.heap.size C' C'' → Lie W3 C'' →
          ∃ W4, (Instr.endRound l jump).run P W3 = .ok (.bool jump.isNone) W4 ∧ Ext [l] W3 W4 ∧ W4.heap[l]? = some (.loop (rec (if jump.isNone then .ready else .done) jump)) ∧
            Ext (l :: C') W W4 ∧ Fresh W.heap.size (l :: C') (l :: C'') ∧ Lie W4 (l :: C'') ∧ Lie W4 C'' ∧ Fresh W1.heap.size C C'' ∧ Ext (l :: C) W1 W4 ∧ l ∉ C'' := fun jump W3 C'' hE3 hf3 hl3 => by
        have hl3' := hE3.heap hl2 (hnew hf)
        have hrun := run_endRound (P := P) jump hl3'
        have hf4 : Fresh W1.heap.size C C'' := hf.trans hf3 (by rw [hsz]; exact hE.size)
        have hE4 : Ext [l] W3 (W3.putObj l (.loop (rec (if jump.isNone then .ready else .done) jump))) := Ext.put W3 l _
        have hE5 : Ext (l :: C') W (W3.putObj l (.loop (rec (if jump.isNone then .ready else .done) jump))) :=
          ((hE2.mono (M' := l :: C') (fun b hb => by simp at hb; simp [hb])).trans hE3 (fun b hb => .inl (by simp [hb]))).trans hE4 (fun b hb => .inl (by simp at hb; simp [hb]))
        refine ⟨W3.putObj l (.loop (rec (if jump.isNone then .ready else .done) jump)), by rw [hrun, hrec], hE4, World.putObj_heap_same (Array.getElem?_eq_some_iff.1 hl3').1, hE5, ?_, ?_, hl3.ext hE4, hf4, ?_, hnew hf4⟩
        · intro b hb
          rcases List.mem_cons.1 hb with rfl | hb
          · exact .inl (by simp)
          · rcases hf3 b hb with h1 | h1
            · exact .inl (by simp [h1])
            · exact .inr (by omega)
        · intro b hb
          rcases List.mem_cons.1 hb with rfl | hb
          · exact Nat.lt_of_lt_of_le hlt (hE.trans hE5 (fun b hb => by
              rcases List.mem_cons.1 hb with rfl | hb
              · exact .inl (by simp)
              · exact (hf b hb).imp (fun h => by simp [h]) id)).size
          · exact hl3.ext hE4 b hb
        · exact hE.trans hE5 (fun b hb => by
            rcases List.mem_cons.1 hb with rfl | hb
            · exact .inl (by simp)
            · exact (hf b hb).imp (fun h => by simp [h]) id)
      have hmv : ∀ {C'' : List Nat} {W3 W4 : World} {K : List α → List Nat → World → Prop} {s : List α}, Stab B K → K s C'' W3 → Ext [l] W3 W4 → l ∉ C'' → K s C'' W4 := fun hK h hE hn => hK _ _ _ _ _ h hE (fun b hb => by simp at hb; subst hb; exact ⟨hlB, hn⟩)
      rintro e a3 W3 ⟨C'', hE3, hf3, hl3, hx⟩
      cases e with
      | normal =>
        obtain ⟨W4, hr, e1, e2, e3, e4, e5, e6, e7, e8, e9⟩ := fin none W3 C'' hE3 hf3 hl3
        exact ⟨_, W4, hr, true, rfl, l :: C'', e3, e4, e5, C'', rfl, hmv hI hx e1 e9, e6, e7, e2, e8⟩
      | ret =>
        obtain ⟨W4, hr, e1, e2, e3, e4, e5, e6, e7, e8, e9⟩ := fin (some .ret) W3 C'' hE3 hf3 hl3
        exact ⟨_, W4, hr, false, rfl, l :: C'', e3, e4, e5, C'', .ret, rfl, hmv (hIx _) hx e1 e9, e6, e7, e2, e8⟩
      | exit id =>
        obtain ⟨W4, hr, e1, e2, e3, e4, e5, e6, e7, e8, e9⟩ := fin (some (.exit id)) W3 C'' hE3 hf3 hl3
        exact ⟨_, W4, hr, false, rfl, l :: C'', e3, e4, e5, C'', .exit id, rfl, hmv (hIx _) hx e1 e9, e6, e7, e2, e8⟩
      | goto t =>
        obtain ⟨W4, hr, e1, e2, e3, e4, e5, e6, e7, e8, e9⟩ := fin (some (.goto t)) W3 C'' hE3 hf3 hl3
        exact ⟨_, W4, hr, false, rfl, l :: C'', e3, e4, e5, C'', .goto t, rfl, hmv (hIx _) hx e1 e9, e6, e7, e2, e8⟩
      | panic ch => exact hx.elim
      | outgrown => exact hx.elim
  · rintro e W2 ⟨hv, Cf, hE2, hf2, hli2, (⟨C', rfl, hi, hli, hf, hl, hE⟩ | ⟨pre, hpre, C', c, rfl, hi, hli, hf, hl, hE⟩)⟩
    · have hrun := run_endLoop (P := P) hl (by rw [hrec]; simp)
      have hE4 := Ext.put W2 l (.loop { rec .ready none with state := .exhausted })
      exact ⟨hv, C', none, _, by rw [hrun, hrec], hE.trans hE4 (fun b hb => .inl (by simp at hb; simp [hb])), hf, hli.ext hE4, hnew hf, .inl ⟨rfl, hI _ _ _ _ _ hi hE4 (fun b hb => by simp at hb; subst hb; exact ⟨hlB, hnew hf⟩)⟩⟩
    · have hrun := run_endLoop (P := P) hl (by rw [hrec]; simp)
      have hE4 := Ext.put W2 l (.loop { rec .done (some c) with state := .exhausted })
      exact ⟨hv, C', some c, _, by rw [hrun, hrec], hE.trans hE4 (fun b hb => .inl (by simp at hb; simp [hb])), hf, hli.ext hE4, hnew hf, .inr ⟨c, pre, rfl, hpre, hIx c _ _ _ _ _ hi hE4 (fun b hb => by simp at hb; subst hb; exact ⟨hlB, hnew hf⟩)⟩⟩

/-- 'for .. := range g', no round around it -/
theorem range_out {α : Type} {g : Operand} {ps : Array Tmp} {as body : Code} {gf : Nat} {lb : Array Value} {enc : α → List Value} {xs : List α} {T : Nat → Prop}
    (I : List α → List Nat → World → Prop) (Ix : Code → List α → List Nat → World → Prop) (C : List Nat) (mx : α → Fm)
    (hS : St n ds m a) (hg : fev m g = some (.func (.func gf) #[] lb)) (hcf : ∀ args w, (callFunc gf args).run P w = .ok (.enter gf args) w)
    (hseq : ∀ W, Ext [] w W → W.heap.size = w.heap.size + 2 → SeqOk P gf lb.toList enc xs T W) (hT : ∀ b, T b → b < w.heap.size) (hCT : ∀ b ∈ C, ¬T b) (hC : Lie w C)
    (hps : ∀ x, (enc x).length = ps.size) (hpl : allLt n ps.toList = true) (hI : Stab w.heap.size I) (hIx : ∀ c, Stab w.heap.size (Ix c)) (h0 : I [] C w)
    (hassign : ∀ l x (a' : Act) W (K : Act → World → Prop), St n [] (fputs m ps.toList (enc x)) a' → (∀ a'', St n [] (mx x) a'' → K a'' W) → as.wpIn (Fence.wide.inRound l) 0 P (Exit.then K (fun _ _ _ => False)) a' W)
    (hround : ∀ l pre x post C' W a', xs = pre ++ x :: post → I pre C' W → Lie W C' → Fresh w.heap.size C C' → l ∉ C' → Rec W l → Ext C w W → St n [] (mx x) a' → body.wpIn (Fence.wide.inRound l) 0 P (left I Ix (pre ++ [x]) C' W) a' W)
    (hdone : ∀ C' W a', Ext C w W → Fresh (w.heap.size + 2) C C' → Lie W C' → Dfr W w.heap.size → I xs C' W → St n (dmark w.heap.size :: ds) m a' → Q .normal a' W)
    (hstop : ∀ c pre C' W a', Ext C w W → Fresh (w.heap.size + 2) C C' → Lie W C' → Dfr W w.heap.size → pre <+: xs → Ix c pre C' W → St n (dmark w.heap.size :: ds) m a' → c.wpIn Fence.wide 0 P Q a' W) :
    (Code.rangeFunc g ps as body).wpIn Fence.wide 0 P Q a w := by
  refine wpIn_rangeFunc ?_
  intro fn hfn
  obtain ⟨rec, hrec⟩ : ∃ rec : LoopState → Option Code → Loop, rec = fun st pe => { state := st, pending := pe, fn, tmps := a.tmps, params := ps, assign := as, body, defers := w.heap.size } := ⟨_, rfl⟩
  obtain ⟨W1, hW1⟩ : ∃ W1, (w.alloc (.deferred (some []))).alloc (.loop (rec .ready none)) = W1 := ⟨_, rfl⟩
  have hL1 : W1.heap[w.heap.size + 1]? = some (.loop (rec .ready none)) := by
    rw [← hW1]; have := World.alloc_heap_new (w.alloc (.deferred (some []))) (.loop (rec .ready none)); rwa [World.size_alloc] at this
  have hK1 : Dfr W1 w.heap.size := by
    rw [← hW1]; exact (RowKit.Below.heap_alloc _ _ _ (by simp)).trans (World.alloc_heap_new w _)
  have hE1 : Ext [] w W1 := by rw [← hW1]; exact ((Ext.refl [] w).alloc _).alloc _
  have hsz : W1.heap.size = w.heap.size + 2 := by rw [← hW1]; simp
  have hnl : w.heap.size + 1 ∉ C := fun h => by have := hC _ h; omega
  have hnT : ∀ b, T b → b < w.heap.size := hT
  have hSt : St n [] m { tmps := a.tmps, defers := [] } := ⟨hS.size, rfl, hS.get⟩
  have hEC : ∀ {W : World}, Ext ((w.heap.size + 1) :: C) W1 W → Ext C w W := fun h => hE1.of0.trans h (fun b hb => by
    rcases List.mem_cons.1 hb with rfl | hb
    · exact .inr (by omega)
    · exact .inl hb)
  have hfv : a.eval g = .func (.func gf) #[] lb := hS.eval hg
  refine ⟨w.heap.size + 1, [dmark w.heap.size], W1, { target := .fn (.func gf) lb, args := #[.func (.yield (w.heap.size + 1)) #[] #[]] }, W1, gf,
    #[.func (.yield (w.heap.size + 1)) #[] #[]] ++ lb, W1, ?_, ?_, ?_, ?_, fun h => by simp [Fence.wide] at h, ?_⟩
  · rw [← hW1, hrec]; exact run_enterLoop_outer _ _ _ _ _
  · simp only [resolve, hfv]
    simp [go_sem]
  · intro f' _; exact trivial
  · simp [invoke, go_sem, hcf]
  · have key := ranged (l := w.heap.size + 1) (B := w.heap.size) (m := m) (n := n) (mx := mx) rec hrec (hseq W1 hE1 hsz) hL1 (by omega) (by omega) hnl (fun h => by have := hT _ h; omega) hCT (hC.ext hE1) hps hI hIx (hI _ _ _ _ _ h0 hE1 (fun b hb => by cases hb)) hSt hpl (hassign _)
      (fun pre x post C' W a' hxs hi hli hf hn hr hE hSx => hround _ pre x post C' W a' hxs hi hli (hf.mono (by omega)) hn hr (hEC hE) hSx)
    have harg : (#[Value.func (.yield (w.heap.size + 1)) #[] #[]] ++ lb) = (Value.func (.yield (w.heap.size + 1)) #[] #[] :: lb.toList).toArray := by apply Array.ext'; simp
    rw [harg]
    refine calls_in wide_wide (key.mono ?_)
    have hSm : St n (dmark w.heap.size :: ds) m { a with defers := [dmark w.heap.size] ++ a.defers } := ⟨hS.size, by simp [hS.defers], hS.get⟩
    rintro e W2 ⟨⟨v, rfl⟩, C', jump, W3, hrun, hE, hf, hli, hn, (⟨rfl, hi⟩ | ⟨c, pre, rfl, hpre, hi⟩)⟩
    · exact ⟨none, W3, hrun, hdone C' W3 _ (hEC hE) (hf.mono (by omega)) hli (hK1.ext hE (fun h => by rcases List.mem_cons.1 h with h | h; omega; have := hC _ h; omega)) hi hSm⟩
    · exact ⟨some c, W3, hrun, hstop c pre C' W3 _ (hEC hE) (hf.mono (by omega)) hli (hK1.ext hE (fun h => by rcases List.mem_cons.1 h with h | h; omega; have := hC _ h; omega)) hpre hi hSm⟩

/-! ### functions that hold such loops: the marks at the end -/

theorem calls_bodyM {f : FuncId} {fn : Func} {c : Code} {args : Array Value} {R : Ending → World → Prop} (n : Nat) (m : Fm)
    (hf : P.funcs[f]? = some fn) (hb : fn.body = some c) (hn : fn.ntmps = n) (ha : Nat.ble args.size n = true) (hm : finit args.toList 0 = m)
    (h : ∀ a, St n [] m a → c.wpIn Fence.wide 0 P (bodyPostM Fence.wide 0 P fn R) a w) : Calls P f args w R := by
  subst hm
  refine calls_out (k := 0) wide_wide (callsIn_of_wp_marks hf hb trivial ?_)
  rw [hn]
  exact h _ (init_st (Nat.le_of_ble_eq_true ha))

theorem leavesM {fn : Func} {tmps : Array Value} {R : Ending → World → Prop} : ∀ (Ds : List Nat) (w : World), (∀ D ∈ Ds, Dfr w D) → Ds.Nodup →
    (∀ w', Ext Ds w w' → ∃ v, (results fn tmps).run P w' = .ok v w' ∧ R (.returned v) w') → LeavesInM Fence.wide 0 P fn tmps R (Ds.map dmark) .returning w
  | [], w, _, _, h => h w (Ext.refl _ _)
  | D :: Ds, w, hD, hnd, h => by
    have hd := hD D (by simp)
    have hE := Ext.put w D (.deferred none)
    rw [List.nodup_cons] at hnd
    refine ⟨by simp, .inl ⟨D, _, rfl, run_takeDeferred hd, leavesM Ds _ (fun D' h' => (hD D' (by simp [h'])).ext hE (fun hm => by simp at hm; subst hm; exact hnd.1 h')) hnd.2 fun w' hE' => ?_⟩⟩
    exact h w' ((hE.mono (fun b hb => by simp at hb; simp [hb])).trans hE' (fun b hb => .inl (by simp [hb])))

theorem retM0 {fn : Func} {R : Ending → World → Prop} (Ds : List Nat) (hS : St n (Ds.map dmark) m a) (hr : fn.results = #[]) (hD : ∀ D ∈ Ds, Dfr w D) (hnd : Ds.Nodup)
    (hR : ∀ w', Ext Ds w w' → R (.returned (.tuple #[])) w') : bodyPostM Fence.wide 0 P fn R .ret a w := by
  show LeavesInM _ _ _ _ _ _ a.defers _ _
  rw [hS.defers]
  exact leavesM Ds w hD hnd fun w' hE => ⟨_, results_none hr _ _ _, hR w' hE⟩

theorem retM1 {fn : Func} {R : Ending → World → Prop} {t : Nat} {v : Value} (Ds : List Nat) (hS : St n (Ds.map dmark) m a) (hr : fn.results = #[.tmp t]) (ht : fget m t = some v) (hD : ∀ D ∈ Ds, Dfr w D) (hnd : Ds.Nodup)
    (hR : ∀ w', Ext Ds w w' → R (.returned v) w') : bodyPostM Fence.wide 0 P fn R .ret a w := by
  show LeavesInM _ _ _ _ _ _ a.defers _ _
  rw [hS.defers]
  exact leavesM Ds w hD hnd fun w' hE => ⟨v, by rw [results_tmp hr, hS.getD ht], hR w' hE⟩

end

/-! ### a scope in which the run jumps back to one label -/

def jumpX (l : Nat) (J : Act → World → Prop) (Q : Exit → Act → World → Prop) : Exit → Act → World → Prop
  | .goto l', a, w => l' = l ∧ J a w
  | e, a, w => Q e a w

section
variable {F : Fence} {P : Program} {Q : Exit → Act → World → Prop} {a : Act} {w : World} {l : Nat} {J : Act → World → Prop}
theorem jumpX_ret (h : Q .ret a w) : jumpX l J Q .ret a w := h
theorem jumpX_goto (h : J a w) : jumpX l J Q (.goto l) a w := ⟨rfl, h⟩

theorem stepR_scope' {b : Frame} {k : List Go.Item} {cs : List Frame} {c : Code} : step P (lone (b.atR a (.code (.scope c) :: k)) cs w) = .next (lone (b.atR a (.code c :: .inScope c :: k)) cs w) :=
  step_lone_go (by simp [stepG, stepG.exec, Frame.atR])
theorem stepR_inScope' {b : Frame} {k : List Go.Item} {cs : List Frame} {c : Code} : step P (lone (b.atR a (.inScope c :: k)) cs w) = .next (lone (b.atR a k) cs w) :=
  step_lone_go (by simp [stepG, stepG.exec, Frame.atR])

theorem scope_ghost {c rest : Code} {G : Type} (l : Nat) (J : G → Act → World → Prop) (μ : G → Nat) (hf : findLabel c l = some (.seq .skip rest)) (hro : F.round = none)
    (pass : ∀ g a w, J g a w → rest.wpIn F 0 P (jumpX l (fun a' w' => ∃ g', J g' a' w' ∧ μ g' < μ g) Q) a w)
    (first : (∀ a w, (∃ g, J g a w) → rest.wpIn F 0 P (jumpX l (fun a w => ∃ g, J g a w) Q) a w) → c.wpIn F 0 P (jumpX l (fun a w => ∃ g, J g a w) Q) a w) : (Code.scope c).wpIn F 0 P Q a w := by
  have hfirst := first fun a w ⟨g, hg⟩ => wpIn_mono (pass g a w hg) (fun e a w h => by
    cases e with
    | goto l' => exact ⟨h.1, h.2.elim fun g' hg' => ⟨g', hg'.1⟩⟩
    | _ => exact h)
  intro b k cs hrb hb hr
  have hg : gotoIn l (.inScope c :: k) = some (.code (.seq .skip rest) :: .inScope c :: k) := by simp [gotoIn, hf]
  have hnone : b.roundOf = none := hrb.trans hro
  have key : ∀ n g a w, μ g = n → J g a w → ∃ e a' w', Q e a' w' ∧ ArrivesIn (Machine.fenced P F) P (lone (b.atR a (.code (.seq .skip rest) :: .inScope c :: k)) cs w) b k cs e a' w' := by
    intro n
    induction n using Nat.strongRecOn with
    | _ n ih =>
      intro g a w hn hJ
      have hp : (Code.seq .skip rest).wpIn F 0 P (jumpX l (fun a' w' => ∃ g', J g' a' w' ∧ μ g' < μ g) Q) a w := wpIn_seq (wpIn_skip (pass g a w hJ))
      obtain ⟨e, a₁, w₁, hq, harr⟩ := hp b (.inScope c :: k) cs hrb hb hr
      cases e with
      | normal => exact ⟨.normal, a₁, w₁, hq, StepsIn.trans harr (.one (fenced_calm hb hr rfl) stepR_inScope')⟩
      | exit id => exact ⟨.exit id, a₁, w₁, hq, ⟨fun k' hk => harr.1 k' (by simp [exitTo, hk]), fun h => by simp [hnone] at h⟩⟩
      | goto l' =>
        obtain ⟨rfl, g', hJ', hlt⟩ := hq
        obtain ⟨e₂, a₂, w₂, hq₂, harr₂⟩ := ih _ (by omega) g' a₁ w₁ rfl hJ'
        exact ⟨e₂, a₂, w₂, hq₂, .of_steps (harr.1 _ hg) harr₂⟩
      | ret => exact ⟨_, a₁, w₁, hq, harr⟩
      | panic ch => exact ⟨_, a₁, w₁, hq, harr⟩
      | outgrown => exact ⟨_, a₁, w₁, hq, harr⟩
  obtain ⟨e, a₁, w₁, hq, harr⟩ := hfirst b (.inScope c :: k) cs hrb hb hr
  have h0 : (lone (b.atR a (.code (.scope c) :: k)) cs w).fenced P F := fenced_calm hb hr rfl
  cases e with
  | normal => exact ⟨.normal, a₁, w₁, hq, .head h0 stepR_scope' (StepsIn.trans harr (.one (fenced_calm hb hr rfl) stepR_inScope'))⟩
  | exit id => exact ⟨.exit id, a₁, w₁, hq, ⟨fun k' hk => .head h0 stepR_scope' (harr.1 k' (by simp [exitTo, hk])), fun h => by simp [hnone] at h⟩⟩
  | goto l' =>
    obtain ⟨rfl, g, hJ'⟩ := hq
    obtain ⟨e₂, a₂, w₂, hq₂, harr₂⟩ := key _ g a₁ w₁ rfl hJ'
    exact ⟨e₂, a₂, w₂, hq₂, .of_steps (.head h0 stepR_scope' (harr.1 _ hg)) harr₂⟩
  | ret => exact ⟨_, a₁, w₁, hq, .of_steps (.one h0 stepR_scope') harr⟩
  | panic ch => exact ⟨_, a₁, w₁, hq, .of_steps (.one h0 stepR_scope') harr⟩
  | outgrown => exact ⟨_, a₁, w₁, hq, .of_steps (.one h0 stepR_scope') harr⟩
end

end Go.Vc
