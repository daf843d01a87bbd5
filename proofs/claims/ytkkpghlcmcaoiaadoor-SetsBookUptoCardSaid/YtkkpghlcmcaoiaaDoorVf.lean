import Derived.Test.YtkkpghlcmcaoiaaDoorVc
namespace Go.Vc
open Go
/-! ### the blocks of book-keeping -/
def Dfr (w : World) (D : Nat) : Prop := w.heap[D]? = some (.deferred (some []))
def Rec (w : World) (l : Nat) : Prop := ∃ r, w.heap[l]? = some (.loop r)
section
variable {w w' w0 : World} {b l D : Nat} {M : List Nat} {o : Obj}
theorem Ext.heap (h : Ext M w w') (hb : w.heap[b]? = some o) (hM : b ∉ M) : w'.heap[b]? = some o := (h.keep b (Array.getElem?_eq_some_iff.1 hb).1 hM).trans hb
theorem Dfr.ext (h : Dfr w D) (hE : Ext M w w') (hM : D ∉ M) : Dfr w' D := hE.heap h hM
theorem Dfr.lt (h : Dfr w D) : D < w.heap.size := (Array.getElem?_eq_some_iff.1 h).1
theorem Rec.ext (h : Rec w l) (hE : Ext M w w') (hM : l ∉ M) : Rec w' l := h.elim fun r hr => ⟨r, hE.heap hr hM⟩
theorem Rec.lt (h : Rec w l) : l < w.heap.size := h.elim fun _ hr => (Array.getElem?_eq_some_iff.1 hr).1
theorem Dfr.ne_blk (h : Dfr w D) {T : TypeId} {cs : Array Value} (h' : Blk w b T cs) : D ≠ b := fun e => by
 subst e; have := (show w.heap[D]? = _ from h).symm.trans h'; simp at this
theorem Rec.ne_blk (h : Rec w l) {T : TypeId} {cs : Array Value} (h' : Blk w b T cs) : l ≠ b := fun e => by
 subst e; obtain ⟨r, hr⟩ := h; have := hr.symm.trans h'; simp at this
theorem Ext.putIn (h : Ext M w0 w) (hb : b ∈ M ∨ w0.heap.size ≤ b) (o : Obj) : Ext M w0 (w.putObj b o) :=
 ⟨h.os, h.tape, h.output, by simpa using h.size, fun k hk hn => by
  have hne : k ≠ b := fun e => by subst e; rcases hb with h1 | h1; exact hn h1; omega
  rw [World.putObj_heap_other hne]; exact h.keep k hk hn⟩
theorem Ext.put (w : World) (b : Nat) (o : Obj) : Ext [b] w (w.putObj b o) := (Ext.refl [b] w).putIn (.inl (by simp)) o
end
/-! ### the two parties -/
def Fresh (N : Nat) (C C' : List Nat) : Prop := ∀ b ∈ C', b ∈ C ∨ N ≤ b
def Lie (W : World) (C : List Nat) : Prop := ∀ b ∈ C, b < W.heap.size
theorem Fresh.refl (N : Nat) (C : List Nat) : Fresh N C C := fun _ h => .inl h
theorem Fresh.trans {N N' : Nat} {C C' C'' : List Nat} (h : Fresh N C C') (h' : Fresh N' C' C'') (hN : N ≤ N') : Fresh N C C'' := fun b hb => by
 rcases h' b hb with h1 | h1
 ·exact h b h1
 ·exact .inr (Nat.le_trans hN h1)
theorem Fresh.mono {N N' : Nat} {C C' : List Nat} (h : Fresh N C C') (hN : N' ≤ N) : Fresh N' C C' := fun b hb => (h b hb).imp id (Nat.le_trans hN)
theorem Lie.ext {M C : List Nat} {W W' : World} (h : Lie W C) (hE : Ext M W W') : Lie W' C := fun b hb => Nat.lt_of_lt_of_le (h b hb) hE.size
theorem Ext.fresh {C C' : List Nat} {w0 w w' : World} (h : Ext C w0 w) (h' : Ext C' w w') (hf : Fresh w0.heap.size C C') : Ext C w0 w' := h.trans h' hf
def YCall (P : Program) (l : Nat) (args : List Value) (W : World) (R : Bool → World → Prop) : Prop :=
 ∃ fn tmps as body, (Instr.yield l args.toArray).run P W = .ok (.round l fn tmps as body) W ∧ RoundIn Fence.wide 0 P l fn tmps as body W fun e w' => ∃ b, e = .returned (.bool b) ∧ R b w'
theorem YCall.mono {P : Program} {l : Nat} {args : List Value} {W : World} {R R' : Bool → World → Prop} (h : YCall P l args W R) (hr : ∀ b w, R b w → R' b w) : YCall P l args W R' := by
 obtain ⟨fn, tmps, as, body, hy, hR⟩ := h
 exact ⟨fn, tmps, as, body, hy, hR.mono fun e w' ⟨b, he, hb⟩ => ⟨b, he, hr _ _ hb⟩⟩
section
variable {F : Fence} {P : Program} {ops : Array Oper} {Q : Exit → Act → World → Prop} {a : Act} {w : World} {n : Nat} {ds : List Deferred} {m : Fm}
/-! ### the ranging party -/
def left {α : Type} (I : List α → List Nat → World → Prop) (Ix : Code → List α → List Nat → World → Prop) (s : List α) (C : List Nat) (W : World) : Exit → Act → World → Prop := fun e _ W' =>
 ∃ C', Ext C W W' ∧ Fresh W.heap.size C C' ∧ Lie W' C' ∧ (match e with
  | .normal => I s C' W'
  | .ret => Ix .ret s C' W'
  | .exit id => Ix (.exit id) s C' W'
  | .goto t => Ix (.goto t) s C' W'
  | _ => False)
/-! ### functions that hold such loops: the marks at the end -/
end
/-! ### a scope in which the run jumps back to one label -/
section
variable {F : Fence} {P : Program} {Q : Exit → Act → World → Prop} {a : Act} {w : World} {l : Nat} {J : Act → World → Prop}
end
end Go.Vc
