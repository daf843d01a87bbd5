/- The table: ropes beside the reference's ropes, and the bytes that are lent to both. -/
import Derived.Test.YtkdbfjomjlhfbaaR22
namespace Go.Proofs.Ytkdbfjomjlhfbaa
open Go.Vc

structure En where
  b : Nat
  o : Option Nd
  c : Nat
  v : Value
def En.bp (e : En) : Value := Pv e.b
def En.cp (e : En) : Value := Pv e.c
structure Ta where
  t : Nat
  pb : Option Addr
  pc : Nat
  qb : Option Addr
  qc : Nat
  bb : Option Addr
  bn : Nat
  L : List En
/-- the blocks of the table that change -/
def Ta.M (F : Ta) : List Nat := F.t :: (oa F.pb ++ oa F.qb ++ oa F.bb)
@[reducible] def Ta.Z (F : Ta) : Inhabited Zt := ⟨⟨fun x => x ∈ F.M⟩⟩
def RpT (F : Ta) (w : World) (b : Nat) (o : Option Nd) : Prop := @RpOk F.Z w b o
def RfT (F : Ta) (w : World) (c : Nat) (v : Value) (xs : List Int) : Prop := Blk w c 56 #[v] ∧ RdV w 1 v xs.length (bv xs) ∧ (∀ x ∈ ob v, x ∉ F.M ∧ x < w.heap.size) ∧ xs.length ≤ 16777216
structure TI (w : World) (F : Ta) : Prop where
  f : Blk w F.t 46 #[.slice F.pb F.L.length F.pc, .slice F.qb F.L.length F.qc, .slice F.bb F.bn F.bn]
  P : OwnV w 24 1 (.slice F.pb F.L.length F.pc) F.L.length (F.L.map En.bp)
  R : OwnV w 52 1 (.slice F.qb F.L.length F.qc) F.L.length (F.L.map En.cp)
  B : ∃ ys, OwnV w 5 1 (.slice F.bb F.bn F.bn) F.bn ys
  bn : F.bn ≤ 100000000000
  ln : F.L.length ≤ 300
  p : ∀ e ∈ F.L, RpT F w e.b e.o
  q : ∀ e ∈ F.L, RfT F w e.c e.v (obs e.o)

theorem oa_mem {b : Option Addr} {n c x : Nat} (h : x ∈ oa b) : x ∈ ob (.slice b n c) := by rw [ob_oa]; exact h
theorem own_oa {w : World} {e : TypeId} {size n c : Nat} {b : Option Addr} {xs : List Value} (h : OwnV w e size (.slice b n c) n xs) {x : Nat} (hx : x ∈ oa b) : ∃ cs, Blk w x e cs := by
  rcases h with ⟨h1, _, _⟩ | ⟨g, cap, h1, h2⟩
  · simp only [Value.slice.injEq] at h1; rw [h1.1] at hx; cases hx
  · simp only [Value.slice.injEq] at h1
    rw [h1.1] at hx
    simp [oa] at hx
    subst hx
    exact h2.toBlk
theorem TI.ty {w : World} {F : Ta} (h : TI w F) {x : Nat} (hx : x ∈ F.M) : ∃ T cs, Blk w x T cs ∧ (T = 46 ∨ T = 24 ∨ T = 52 ∨ T = 5) := by
  simp only [Ta.M, List.mem_cons, List.mem_append] at hx
  rcases hx with rfl | (hx | hx) | hx
  · exact ⟨46, _, h.f, by decide⟩
  · obtain ⟨cs, hc⟩ := own_oa h.P hx; exact ⟨24, cs, hc, by decide⟩
  · obtain ⟨cs, hc⟩ := own_oa h.R hx; exact ⟨52, cs, hc, by decide⟩
  · obtain ⟨ys, hB⟩ := h.B; obtain ⟨cs, hc⟩ := own_oa hB hx; exact ⟨5, cs, hc, by decide⟩
theorem TI.nin {w : World} {F : Ta} (h : TI w F) {b T : Nat} {cs : Array Value} (hB : Blk w b T cs) (hT : ¬(T = 46 ∨ T = 24 ∨ T = 52 ∨ T = 5)) : b ∉ F.M := fun hm => by
  obtain ⟨T', cs', h1, h2⟩ := h.ty hm
  exact h1.ne_type hB (fun e => hT (e ▸ h2)) rfl
theorem TI.zb {w : World} {F : Ta} (h : TI w F) : @Zb F.Z w := fun x hx => by
  obtain ⟨T, cs, hB, _⟩ := h.ty (show x ∈ F.M from hx)
  exact hB.lt
theorem RpT.ext0 {F : Ta} {w w' : World} {b : Nat} {o : Option Nd} (h : RpT F w b o) (hE : Ext [] w w') : RpT F w' b o := @RpOk.ext0 F.Z _ _ _ _ h hE
theorem RfT.ext0 {F : Ta} {w w' : World} {c : Nat} {v : Value} {xs : List Int} (h : RfT F w c v xs) (hE : Ext [] w w') : RfT F w' c v xs := ⟨h.1.ext hE (by simp), h.2.1.ext0 hE, fun x hx => ⟨(h.2.2.1 x hx).1, Nat.lt_of_lt_of_le (h.2.2.1 x hx).2 hE.size⟩, h.2.2.2⟩
theorem TI.ext0 {w w' : World} {F : Ta} (h : TI w F) (hE : Ext [] w w') : TI w' F :=
  ⟨h.f.ext hE (by simp), h.P.ext hE (by simp), h.R.ext hE (by simp), by obtain ⟨ys, hB⟩ := h.B; exact ⟨ys, hB.ext hE (by simp)⟩, h.bn, h.ln, fun e he => (h.p e he).ext0 hE, fun e he => (h.q e he).ext0 hE⟩

/-! ### the table changes -/

theorem Nd.Ok.re {Z Z' : Inhabited Zt} {w w' : World} {M : List Nat} : ∀ {t : Nd}, @Nd.Ok Z w t → Ext M w w' → (∀ x ∈ M, ¬t.Foot x) → @Zb Z' w' → (∀ x, t.Foot x → ¬@ZZ Z' x) → @Nd.Ok Z' w' t
  | .leaf b v xs, ⟨h1, h2, h3, h4, _, _, _⟩, hE, hM, hz, hn => ⟨h1.ext hE fun hm => hM _ hm (.inl rfl), h2.ext hE fun x hx hm => hM _ hm (.inr hx), h3, h4, hz, hn _ (.inl rfl), fun x hx => hn x (.inr hx)⟩
  | .two b l r, ⟨h1, h2, h3, _⟩, hE, hM, hz, hn => ⟨h1.ext hE fun hm => hM _ hm (.inl rfl), Nd.Ok.re h2 hE (fun x hx hf => hM x hx (.inr (.inl hf))) hz fun x hx => hn x (.inr (.inl hx)), Nd.Ok.re h3 hE (fun x hx hf => hM x hx (.inr (.inr hf))) hz fun x hx => hn x (.inr (.inr hx)), hn _ (.inl rfl)⟩
theorem okO.re {Z Z' : Inhabited Zt} {w w' : World} {M : List Nat} : ∀ {o : Option Nd}, @okO Z w o → Ext M w w' → (∀ x ∈ M, ¬footO o x) → @Zb Z' w' → (∀ x, footO o x → ¬@ZZ Z' x) → @okO Z' w' o
  | some t, h, hE, hM, hz, hn => Nd.Ok.re (Z := Z) (Z' := Z') (t := t) h hE hM hz hn
  | none, _, _, _, hz, _ => hz

/-- the table has become F' -/
structure TS (w : World) (F : Ta) (w' : World) (F' : Ta) : Prop where
  i : TI w' F'
  e : Ext F.M w w'
  m : ∀ x ∈ F'.M, x ∈ F.M ∨ w.heap.size ≤ x
  t : F'.t = F.t
  l : F.L.length ≤ F'.L.length
structure TM (w : World) (F : Ta) (w' : World) (F' : Ta) : Prop where
  i : TI w F
  z : ∀ x ∈ F'.M, x < w'.heap.size
  e : Ext F.M w w'
  m : ∀ x ∈ F'.M, x ∈ F.M ∨ w.heap.size ≤ x
theorem TS.tm {w w' : World} {F F' : Ta} (h : TS w F w' F') (hI : TI w F) : TM w F w' F' := ⟨hI, h.i.zb, h.e, h.m⟩
theorem TS.trans {w w1 w' : World} {F F1 F' : Ta} (h : TS w F w1 F1) (h' : TS w1 F1 w' F') : TS w F w' F' :=
  ⟨h'.i, h.e.trans h'.e h.m, fun x hx => (h'.m x hx).elim (h.m x) fun h2 => .inr (Nat.le_trans h.e.size h2), h'.t.trans h.t, Nat.le_trans h.l h'.l⟩
theorem TS.refl {w : World} {F : Ta} (h : TI w F) : TS w F w F := ⟨h, Ext.refl _ _, fun _ hx => .inl hx, rfl, Nat.le_refl _⟩
theorem TS.trans0 {w w1 w' : World} {F F1 : Ta} (h : TS w F w1 F1) (hE : Ext [] w1 w') : TS w F w' F1 := ⟨h.i.ext0 hE, h.e.trans0 hE, h.m, h.t, h.l⟩
theorem TS.pre {w w1 w' : World} {F F' : Ta} (h : TS w1 F w' F') (hE : Ext [] w w1) : TS w F w' F' :=
  ⟨h.i, hE.of0.trans h.e (fun _ hb => .inl hb), fun x hx => (h.m x hx).imp id (Nat.le_trans hE.size), h.t, h.l⟩
theorem RpT.ts {w w' : World} {F F' : Ta} {b : Nat} {o : Option Nd} (h : RpT F w b o) (hS : TM w F w' F') : RpT F' w' b o := by
  have hnz : ∀ x, footO o x → x ∉ F.M := @okO.nz F.Z _ _ h.2.1
  have hlt : ∀ x, footO o x → x < w.heap.size := @okO.foot F.Z _ _ h.2.1
  refine ⟨h.1.ext hS.e fun hm => ?_, okO.re (Z := F.Z) (Z' := F'.Z) h.2.1 hS.e (fun x hx hf => hnz x hf hx) hS.z fun x hf hx => ?_, h.2.2⟩
  · exact hS.i.nin h.1 (by decide) hm
  · rcases hS.m x hx with h1 | h1
    · exact hnz x hf h1
    · have := hlt x hf; omega
theorem RfT.ts {w w' : World} {F F' : Ta} {c : Nat} {v : Value} {xs : List Int} (h : RfT F w c v xs) (hS : TM w F w' F') : RfT F' w' c v xs := by
  refine ⟨h.1.ext hS.e fun hm => ?_, h.2.1.ext hS.e fun x hx => (h.2.2.1 x hx).1, fun x hx => ⟨fun hm => ?_, Nat.lt_of_lt_of_le (h.2.2.1 x hx).2 hS.e.size⟩, h.2.2.2⟩
  · exact hS.i.nin h.1 (by decide) hm
  · rcases hS.m x hm with h1 | h1
    · exact (h.2.2.1 x hx).1 h1
    · have := (h.2.2.1 x hx).2; omega

/-! ### what it is told by -/
structure TB (w0 w : World) (F : Ta) : Prop where
  i : TI w F
  e : Ext [] w0 w
  m : ∀ x ∈ F.M, w0.heap.size ≤ x
theorem TB.ts {w0 w w' : World} {F F' : Ta} (h : TB w0 w F) (hS : TS w F w' F') : TB w0 w' F' :=
  ⟨hS.i, h.e.trans hS.e fun b hb => .inr (h.m b hb), fun x hx => (hS.m x hx).elim (h.m x) fun h1 => Nat.le_trans h.e.size h1⟩
theorem TB.ext0 {w0 w w' : World} {F : Ta} (h : TB w0 w F) (hE : Ext [] w w') : TB w0 w' F := ⟨h.i.ext0 hE, h.e.trans0 hE, h.m⟩
theorem TB.rd {w0 w : World} {F : Ta} {v : Value} {n : Nat} {xs : List Value} (h : TB w0 w F) (h0 : RdV w0 1 v n xs) : RdV w 1 v n xs := h0.ext0 h.e

/-! ### what an operation answers -/
abbrev Oc := Except Int (List Int)
def RpD (F : Ta) (w : World) (p : Value) (k : Int) : Oc → Prop
  | .ok xs => ∃ b o, p = Pv b ∧ k = 0 ∧ RpT F w b o ∧ obs o = xs
  | .error j => p = .pointer none ∧ k = j ∧ (j = 2 ∨ j = 3)
def RfD (F : Ta) (w : World) (p : Value) (k : Int) : Oc → Prop
  | .ok xs => ∃ c v, p = Pv c ∧ k = 0 ∧ RfT F w c v xs
  | .error j => p = .pointer none ∧ k = j ∧ (j = 2 ∨ j = 3)
theorem RpD.ext0 {F : Ta} {w w' : World} {p : Value} {k : Int} : ∀ {r : Oc}, RpD F w p k r → Ext [] w w' → RpD F w' p k r
  | .ok _, ⟨b, o, h1, h2, h3, h4⟩, hE => ⟨b, o, h1, h2, h3.ext0 hE, h4⟩
  | .error _, h, _ => h
theorem RfD.ext0 {F : Ta} {w w' : World} {p : Value} {k : Int} : ∀ {r : Oc}, RfD F w p k r → Ext [] w w' → RfD F w' p k r
  | .ok _, ⟨c, v, h1, h2, h3⟩, hE => ⟨c, v, h1, h2, h3.ext0 hE⟩
  | .error _, h, _ => h
theorem RpD.ts {w w' : World} {F F' : Ta} {p : Value} {k : Int} : ∀ {r : Oc}, RpD F w p k r → TM w F w' F' → RpD F' w' p k r
  | .ok _, ⟨b, o, h1, h2, h3, h4⟩, hS => ⟨b, o, h1, h2, h3.ts hS, h4⟩
  | .error _, h, _ => h
theorem RfD.ts {w w' : World} {F F' : Ta} {p : Value} {k : Int} : ∀ {r : Oc}, RfD F w p k r → TM w F w' F' → RfD F' w' p k r
  | .ok _, ⟨c, v, h1, h2, h3⟩, hS => ⟨c, v, h1, h2, h3.ts hS⟩
  | .error _, h, _ => h
def RpX (F : Ta) (r : Oc) (w : World) (e : Ending) (w' : World) : Prop := ∃ p k, e = .returned (.tuple #[p, I6 k]) ∧ RpD F w' p k r ∧ Ext [] w w'
def RfX (F : Ta) (r : Oc) (w : World) (e : Ending) (w' : World) : Prop := ∃ p k, e = .returned (.tuple #[p, I6 k]) ∧ RfD F w' p k r ∧ Ext [] w w'
theorem RpX.ok {F : Ta} {w w' : World} {xs : List Int} {e : Ending} (h : @RpR F.Z w xs e w') : RpX F (.ok xs) w e w' := by
  obtain ⟨b, o, h1, h2, h3, h4⟩ := h
  exact ⟨_, _, h1, ⟨b, o, rfl, rfl, h2, h3⟩, h4⟩
theorem RpX.no {F : Ta} {w w' : World} {k : Int} {e : Ending} (h : RpN w k e w') (hk : k = 2 ∨ k = 3) : RpX F (.error k) w e w' := ⟨_, _, h.1, ⟨rfl, rfl, hk⟩, h.2⟩
theorem RfX.no {F : Ta} {w w' : World} {k : Int} {e : Ending} (h : RpN w k e w') (hk : k = 2 ∨ k = 3) : RfX F (.error k) w e w' := ⟨_, _, h.1, ⟨rfl, rfl, hk⟩, h.2⟩
theorem OwnV.lieB {w : World} {e : TypeId} {size n : Nat} {v : Value} {xs : List Value} (h : OwnV w e size v n xs) : ∀ x ∈ ob v, x < w.heap.size := fun x hx => h.lie x hx
theorem RfX.ok {F : Ta} {w w' : World} {xs : List Int} {e : Ending} (hI : TI w F) (h : RfR w xs e w') (hl : xs.length ≤ 16777216) : RfX F (.ok xs) w e w' := by
  obtain ⟨c, v, h1, h2, h3, h4, h5, h7, h6⟩ := h
  refine ⟨_, _, h1, ⟨c, v, rfl, rfl, h2, h3, fun x hx => ⟨fun hm => ?_, h7 x hx⟩, hl⟩, h6⟩
  have h8 := hI.zb x hm
  have h9 := h5 x hx
  omega
end Go.Proofs.Ytkdbfjomjlhfbaa
