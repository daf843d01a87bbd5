/- SetsBehind's plain law: a way through a grammar that notes where each name's row ends; what stands there is in the name's Follow. -/
import Derived.Test.YtkkpghlcmcaoiaaDoorMk
import Derived.Test.YtkkpghlcmcaoiaaDoorS25
namespace Go.Proofs.YtkkpghlcmcaoiaaDoor
open Go.Vc Go.Gm

/-- a row that makes a row of terminals, from the place o on, with the notes of the names within -/
inductive NT (G : Gr) (nl : Nat) : Nat → List Sm → List Nat → List (Nat × Nat) → Prop
  | nil {o} : NT G nl o [] [] []
  | t {o k r u l} : NT G nl (o + 1) r u l → NT G nl o (.t k :: r) (k :: u) l
  | e {o r u l} : NT G nl (o + 1) r u l → NT G nl o (.e :: r) (nl :: u) l
  | m {o A q r v u l l'} : (A, q) ∈ G → NT G nl o q v l → NT G nl (o + v.length) r u l' → NT G nl o (.m A :: r) (v ++ u) (l ++ (A, o + v.length) :: l')
theorem NT.mt {G : Gr} {nl o : Nat} {r : List Sm} {u : List Nat} {l : List (Nat × Nat)} (h : NT G nl o r u l) : MT G nl r u := by
  induction h with
  | nil => exact .nil
  | t _ ih => exact .t ih
  | e _ ih => exact .e ih
  | m hm _ _ ih1 ih2 => exact .m hm ih1 ih2
theorem NT_app {G : Gr} {nl o : Nat} {a b : List Sm} {u v : List Nat} {l l' : List (Nat × Nat)} (h : NT G nl o a u l) : NT G nl (o + u.length) b v l' → NT G nl o (a ++ b) (u ++ v) (l ++ l') := by
  induction h with
  | nil => intro h'; exact h'
  | @t o k r u l _ ih => intro h'; exact .t (ih (by rw [List.length_cons] at h'; rwa [Nat.add_assoc, Nat.add_comm 1]))
  | @e o r u l _ ih => intro h'; exact .e (ih (by rw [List.length_cons] at h'; rwa [Nat.add_assoc, Nat.add_comm 1]))
  | @m o A q r v u l l' hm hq _ _ ih2 =>
    intro h'
    rw [List.length_append, ← Nat.add_assoc] at h'
    have := NT.m hm hq (ih2 h')
    simp only [List.append_assoc, List.cons_append] at this ⊢
    exact this
theorem NT_lt {G : Gr} {nl o : Nat} {r : List Sm} {u : List Nat} {l : List (Nat × Nat)} (h : NT G nl o r u l) : ∀ x ∈ l, x.2 ≤ o + u.length := by
  induction h with
  | nil => intro x hx; cases hx
  | t _ ih => intro x hx; have := ih x hx; simp only [List.length_cons]; omega
  | e _ ih => intro x hx; have := ih x hx; simp only [List.length_cons]; omega
  | m _ _ _ ih1 ih2 =>
    intro x hx
    simp only [List.length_append]
    rcases List.mem_append.1 hx with h | h
    · have := ih1 x h; omega
    · rcases List.mem_cons.1 h with h | h
      · rw [h]; simp only; omega
      · have := ih2 x h; omega
theorem NT_fo {G : Gr} {nl s o : Nat} {r : List Sm} {u : List Nat} {l : List (Nat × Nat)} (h : NT G nl o r u l) : ∀ {B : Nat} {r0 : List Sm} {W pre : List Nat} {c : Nat} {post : List Nat}, (B, r0 ++ r) ∈ G → Fo G nl s B c → W = pre ++ (u ++ c :: post) → pre.length = o → ∀ x ∈ l, ∃ a, W[x.2]? = some a ∧ Fo G nl s x.1 a := by
  induction h with
  | nil => intro _ _ _ _ _ _ _ _ _ _ x hx; cases hx
  | @t o k r u l _ ih =>
    intro B r0 W pre c post hB hc hW hp
    exact ih (B := B) (r0 := r0 ++ [.t k]) (pre := pre ++ [k]) (by simpa using hB) hc (by simpa using hW) (by simp [hp])
  | @e o r u l _ ih =>
    intro B r0 W pre c post hB hc hW hp
    exact ih (B := B) (r0 := r0 ++ [.e]) (pre := pre ++ [nl]) (by simpa using hB) hc (by simpa using hW) (by simp [hp])
  | @m o A q r v u l l' hm hq hr ih1 ih2 =>
    intro B r0 W pre c post hB hc hW hp
    obtain ⟨a, p2, ha, hfa⟩ : ∃ a p2, u ++ c :: post = a :: p2 ∧ Fo G nl s A a := by
      cases u with
      | nil => exact ⟨c, post, rfl, .pass (a := r0) (b := r) hB (MT_emp hr.mt rfl) hc⟩
      | cons a u => exact ⟨a, u ++ c :: post, rfl, .head (a := r0) (b := r) hB (MT_head hr.mt rfl)⟩
    intro x hx
    rcases List.mem_append.1 hx with h | h
    · exact ih1 (B := A) (r0 := []) (c := a) (post := p2) hm hfa (by rw [hW, List.append_assoc, ha]) hp x h
    · rcases List.mem_cons.1 h with h | h
      · rw [h]
        refine ⟨a, ?_, hfa⟩
        simp only
        rw [hW, List.append_assoc, ha, List.getElem?_append_right (by omega), List.getElem?_append_right (by omega), show o + v.length - pre.length - v.length = 0 by omega]
        rfl
      · exact ih2 (B := B) (r0 := r0 ++ [.m A]) (pre := pre ++ v) (by simpa using hB) hc (by simpa using hW) (by simp [hp]) x h
/-- the whole way: the start's row with the end behind it -/
theorem NT_start {G : Gr} {nl s : Nat} {u : List Nat} {l : List (Nat × Nat)} (h : NT G nl 0 [.m s] u l) {c : Nat} (hc : Fo G nl s s c) : ∀ x ∈ l, ∃ a, (u ++ [c])[x.2]? = some a ∧ Fo G nl s x.1 a := by
  cases h with
  | @m _ A q r v u l l' hm hq hr =>
    cases hr
    intro x hx
    rw [List.append_nil]
    rcases List.mem_append.1 hx with h | h
    · exact NT_fo hq (B := s) (r0 := []) (pre := []) (post := []) hm hc rfl rfl x h
    · obtain rfl : x = (s, 0 + v.length) := by simpa using h
      exact ⟨c, by simp, hc⟩
theorem NT_leaf {G : Gr} {nl o : Nat} {x : Sm} {u : List Nat} (h : MT G nl [x] u) (hx : x.isM = false) : NT G nl o [x] u [] := by
  cases h with
  | t h => cases h; exact .t .nil
  | e h => cases h; exact .e .nil
  | m _ _ _ => cases hx
/-- the notes' cells -/
def ncs (L : List (Nat × Nat)) : List Value := L.flatMap fun x => [I6 x.1, I6 x.2]
theorem ncs_len (L : List (Nat × Nat)) : (ncs L).length = L.length * 2 := flat_len (k := 2) (fun _ => rfl) L
theorem ncs_at {L : List (Nat × Nat)} {j : Nat} {x : Nat × Nat} (h : L[j]? = some x) : (ncs L)[0 + j * 2]? = some (I6 x.1) ∧ (ncs L)[0 + j * 2 + 1]? = some (I6 x.2) := by
  have h0 := flat_at (f := fun x : Nat × Nat => [I6 x.1, I6 x.2]) (k := 2) (fun _ => rfl) L j 0 x h (by omega)
  have h1 := flat_at (f := fun x : Nat × Nat => [I6 x.1, I6 x.2]) (k := 2) (fun _ => rfl) L j 1 x h (by omega)
  rw [Nat.zero_add]
  exact ⟨h0, h1⟩
theorem ncs_app (L L' : List (Nat × Nat)) : ncs (L ++ L') = ncs L ++ ncs L' := by simp [ncs]
/-- a way that notes, where it stands -/
structure NotK (S : Sp) (pv : Value) (N b c : Nat) (w : World) (aq ust : Nat) (bs : Option Addr) (n cp : Nat) (zs : List Nat) (ls : Option Addr) (ln lc : Nat) (L : List (Nat × Nat)) : Prop where
  tk : TripK S pv N b w aq ust bs n cp zs
  lb : Blk w c 65 #[.slice ls ln lc]
  own : OwnV w 69 2 (.slice ls ln lc) ln (ncs L)
  new : ∀ x ∈ ob (.slice ls ln lc), N ≤ x
theorem NotK.len {S : Sp} {pv : Value} {N b c : Nat} {w : World} {aq ust : Nat} {bs : Option Addr} {n cp : Nat} {zs : List Nat} {ls : Option Addr} {ln lc : Nat} {L : List (Nat × Nat)} (h : NotK S pv N b c w aq ust bs n cp zs ls ln lc L) : L.length = ln := by
  have := h.own.len
  rw [ncs_len] at this
  omega
/-- what a way writes: its own block, the notes' block, and their rows -/
def nM (b c : Nat) (o l : Value) : List Nat := b :: c :: (ob o ++ ob l)
theorem mem_nM {b c : Nat} {o l : Value} {x : Nat} : x ∈ nM b c o l ↔ x = b ∨ x = c ∨ x ∈ ob o ∨ x ∈ ob l := by simp [nM]
theorem NotK.nw {S : Sp} {pv : Value} {N b c : Nat} {w : World} {aq ust : Nat} {bs : Option Addr} {n cp : Nat} {zs : List Nat} {ls : Option Addr} {ln lc : Nat} {L : List (Nat × Nat)} (h : NotK S pv N b c w aq ust bs n cp zs ls ln lc L) (hb : N ≤ b) (hc : N ≤ c) : ∀ x ∈ nM b c (.slice bs n cp) (.slice ls ln lc), N ≤ x := fun x hx => by
  rcases mem_nM.1 hx with h1 | h1 | h1 | h1
  · rw [h1]; exact hb
  · rw [h1]; exact hc
  · exact h.tk.row.new x h1
  · exact h.new x h1
theorem Ext.nM {M : List Nat} {w w' : World} {b c : Nat} {o l : Value} (h : Ext (b :: ob o) w w') (hM : M = nM b c o l) : Ext M w w' := h.mono fun x hx => by
  rw [hM]
  rcases List.mem_cons.1 hx with h1 | h1
  · exact mem_nM.2 (.inl h1)
  · exact mem_nM.2 (.inr (.inr (.inl h1)))
theorem nM_fresh {M b c : Nat} {o o' l l' : Value} (h : Fresh M (ob o) (ob o')) (h' : Fresh M (ob l) (ob l')) : ∀ x ∈ nM b c o' l', x ∈ nM b c o l ∨ M ≤ x := fun x hx => by
  rcases mem_nM.1 hx with h1 | h1 | h1 | h1
  · exact .inl (mem_nM.2 (.inl h1))
  · exact .inl (mem_nM.2 (.inr (.inl h1)))
  · exact (h x h1).imp (fun h => mem_nM.2 (.inr (.inr (.inl h)))) id
  · exact (h' x h1).imp (fun h => mem_nM.2 (.inr (.inr (.inr h)))) id
theorem NotK.trip {S : Sp} {pv : Value} {N b c : Nat} {w w' : World} {aq ust a2 u2 : Nat} {bs bs2 : Option Addr} {n cp n2 cp2 : Nat} {zs zs2 : List Nat} {ls : Option Addr} {ln lc : Nat} {L : List (Nat × Nat)} (h : NotK S pv N b c w aq ust bs n cp zs ls ln lc L) (hE : Ext (b :: ob (.slice bs n cp)) w w') (hT : TripK S pv N b w' a2 u2 bs2 n2 cp2 zs2) : NotK S pv N b c w' a2 u2 bs2 n2 cp2 zs2 ls ln lc L :=
  ⟨hT, h.lb.ext hE (fun hm => by
    rcases List.mem_cons.1 hm with h1 | h1
    · exact (Blk.ne_type h.lb h.tk.blk (by decide)) h1
    · exact h.tk.row.own.ne h.lb (by decide) _ h1 rfl), h.own.ext hE (fun x hx hm => by
    rcases List.mem_cons.1 hm with h1 | h1
    · exact h.own.ne h.tk.blk (by decide) _ hx h1.symm
    · exact h.tk.row.own.disj h.own (by decide) _ h1 hx), h.new⟩
def NtR (S : Sp) (pv : Value) (N b c : Nat) (r : List Sm) (ust : Nat) (bs : Option Addr) (n cp : Nat) (zs : List Nat) (ls : Option Addr) (ln lc : Nat) (L : List (Nat × Nat)) (w : World) (e : Ending) (w' : World) : Prop :=
  (e = .returned (.bool false) ∧ Ext (nM b c (.slice bs n cp) (.slice ls ln lc)) w w') ∨
  ∃ a2 u2 bs2 n2 cp2 ls2 ln2 lc2 u L', e = .returned (.bool true) ∧ NotK S pv N b c w' a2 u2 bs2 n2 cp2 (zs ++ u) ls2 ln2 lc2 (L ++ L') ∧ Ext (nM b c (.slice bs n cp) (.slice ls ln lc)) w w' ∧ Fresh w.heap.size (ob (.slice bs n cp)) (ob (.slice bs2 n2 cp2)) ∧ Fresh w.heap.size (ob (.slice ls ln lc)) (ob (.slice ls2 ln2 lc2)) ∧ a2 ≤ u2 ∧ n2 ≤ u2 ∧ ln2 + ust ≤ ln + u2 ∧ ust < u2 ∧ u2 ≤ 400 ∧ NT S.g S.nl zs.length r u L'
theorem FolR.at {S : Sp} {ls : List (List Nat)} (h : FolR S ls) {A a : Nat} (hf : Fo S.g S.nl S.st.toNat A a) : ∃ l, ls[A]? = some l ∧ a ∈ l := by
  obtain ⟨fs, rfl, _, hk, hO⟩ := h
  have h1 : hF fs A a := (hO.iff A a).2 hf
  unfold hF at h1
  cases hA : fs[A]? with
  | none => simp [gF, hA, has_none] at h1
  | some s =>
    rw [gF_at hA] at h1
    exact ⟨tls s, by rw [List.getElem?_map, hA]; rfl, (mem_tls (hk s (List.mem_of_getElem? hA))).2 h1⟩
theorem Lsts.extM {N : Nat} {w w' : World} {bs : Option Addr} {n cp : Nat} {L : List Rw} {ls : List (List Nat)} {M : List Nat} (h : Lsts N w bs n cp L ls) (hE : Ext M w w') (hM : ∀ x ∈ M, ∃ t cs, Blk w x t cs ∧ 51 ≠ t ∧ 3 ≠ t ∧ 4 ≠ t) : Lsts N w' bs n cp L ls :=
  ⟨h.own.ext hE fun b hb hm => by obtain ⟨t, cs, hB, h1, _⟩ := hM b hm; exact h.own.ne hB h1 b hb rfl, h.new,
    h.fam.ext hE fun k x hx b hb hm => by obtain ⟨t, cs, hB, _, h1, _⟩ := hM b hm; exact (h.fam.own k x hx).ne hB h1 b hb rfl, h.is⟩
theorem TdOk.extM {S : Sp} {N : Nat} {w w' : World} {T : Td} {M : List Nat} (h : TdOk S N w T) (hE : Ext M w w') (hM : ∀ x ∈ M, ∃ t cs, Blk w x t cs ∧ 51 ≠ t ∧ 3 ≠ t ∧ 4 ≠ t) : TdOk S N w' T :=
  ⟨h.re.ext hE (fun hm => by obtain ⟨t, cs, hB, _, _, h1⟩ := hM _ hm; exact h.re.ne_type hB h1 rfl), h.ne, h.isE, h.lf.extM hE hM, h.isF, h.lw.extM hE hM, h.isW, h.ly.extM hE hM, h.isY, h.afw, h.afy, h.awy⟩
end Go.Proofs.YtkkpghlcmcaoiaaDoor
