import Derived.Test.YtkkpghlcmcaoiaaDoorS70
namespace Go.Proofs.YtkkpghlcmcaoiaaDoor
open Go.Vc Go.Gm
def fV (i q : Nat) : Int := 100000 * (i : Int) + (q : Int)
def tV (i q : Nat) : Int := -1 - 100 * (i : Int) - (q : Int)
def fL (β : Nat → Nat → Nat) (i q : Nat) : List Value := [.slice (some ⟨β i q, 0, none⟩) 1 1]
abbrev tL := fL
def bset (β : Nat → Nat → Nat) (i j v : Nat) : Nat → Nat → Nat := fun a b => if a = i ∧ b = j then v else β a b
theorem fL_set {β : Nat → Nat → Nat} {i j v k q : Nat} (h : k < i ∨ (k = i ∧ q < j)) : fL β k q = fL (bset β i j v) k q := by
 unfold fL bset
 rw [if_neg (by omega)]
theorem fL_at {β : Nat → Nat → Nat} {i j v : Nat} : fL (bset β i j v) i j = [Sl v 1 1] := by simp [fL, bset]
theorem _root_.Go.Vc.Mk.fcongr {size : Nat} {f f' : Nat → Nat → List Value} {L : List Rw} {i j : Nat} (h : Mk size f L i j) (hf : ∀ k q, (k < i ∨ (k = i ∧ q < j)) → f k q = f' k q) : Mk size f' L i j := fun k q r x hx hq hr hk => by
 rw [← hf k q hk]; exact h k q r x hx hq hr hk
theorem _root_.Go.Vc.Mg.tcongr {size T : Nat} {f t t' : Nat → Nat → List Value} {L : List Gw} {i j : Nat} (h : Mg size T f t L i j) (ht : ∀ k q, (k < i ∨ (k = i ∧ q < j)) → t k q = t' k q) (hT : ∀ k q, k < i → q < T → t k q = t' k q := by first | assumption | (intro k q h _; exact fL_set (.inl h))) : Mg size T f t' L i j :=
 ⟨h.m, h.n, fun k q r x hx hq hr => by
  have hk : k < i ∨ (k = i ∧ q < j) := by
   unfold cnt at hq
   split at hq
   ·exact .inl ‹_›
   ·split at hq
    ·exact .inr ⟨‹_›, hq⟩
    ·omega
  rw [← ht k q hk]; exact h.t k q r x hx hq hr⟩
def Pb (w : World) (f : Nat → Nat → Int) (β : Nat → Nat → Nat) (ν : Nat → Nat) (i j : Nat) : Prop := ∀ k q, q < ν k → (k < i ∨ (k = i ∧ q < j)) → Blk w (β k q) 3 #[I6 (f k q)]
section
variable {w w' : World} {f : Nat → Nat → Int} {β : Nat → Nat → Nat} {ν : Nat → Nat} {i j : Nat} {M : List Nat}
theorem Pb.start : Pb w f β ν 0 0 := fun k q _ h => by omega
theorem Pb.next (h : Pb w f β ν i j) (hj : ν i ≤ j) : Pb w f β ν (i + 1) 0 := fun k q hq hk => h k q hq (by
 rcases hk with hk | hk
 ·by_cases h1 : k = i
  ·subst h1; exact .inr ⟨rfl, by omega⟩
  ·exact .inl (by omega)
 ·omega)
theorem Pb.ext (h : Pb w f β ν i j) (hE : Ext M w w') (hM : ∀ (b : Nat) (cs : Array Value), Blk w b 3 cs → b ∉ M) : Pb w' f β ν i j := fun k q hq hk => (h k q hq hk).ext hE (hM _ _ (h k q hq hk))
theorem Pb.put (h : Pb w f β ν i j) (hE : Ext M w w') (hM : ∀ (b : Nat) (cs : Array Value), Blk w b 3 cs → b ∉ M) {nb : Nat} (hB : Blk w' nb 3 #[I6 (f i j)]) : Pb w' f (bset β i j nb) ν i (j + 1) := fun k q hq hk => by
 unfold bset
 split
 ·rename_i h1
  obtain ⟨rfl, rfl⟩ := h1
  exact hB
 ·exact (h.ext hE hM) k q hq (by omega)
end
theorem nu_of {w wz : World} {D : Nat → Prop} {L : List Rw} {ν : Nat → Nat} {i n : Nat} {v : Value} {xs : List Value} (hF : Fam w 51 1 D L) (hν : ∀ k q, (L.map Rw.n)[k]? = some q → ν k = q) (hv : (L.map Rw.v)[i]? = some v) (hr : RdV wz 1 v n xs) : ν i = n := by
 rw [List.getElem?_map] at hv
 cases hL : L[i]? with
 | none => rw [hL] at hv; cases hv
 | some y =>
  rw [hL] at hv
  have h2 : y.v = v := Option.some.inj hv
  rw [hν i y.n (by rw [List.getElem?_map, hL]; rfl)]
  obtain ⟨a, c, h3⟩ := hr.form
  obtain ⟨a', c', h4⟩ := (hF.own i y hL).rd.form
  rw [h2, h3] at h4
  simp only [Value.slice.injEq] at h4
  exact h4.2.1.symm
theorem SameZ_eq {w : World} {v u : Value} {z : Int} (hv : RdV w 1 v 1 [I6 z]) (hu : RdV w 1 u 1 [I6 z]) :
  Calls Tryd.prog 35 #[v, u] w fun e w' => e = .returned (.bool true) ∧ Ext [] w w' := by
 refine cbd 26 [(0, v), (1, u)] Tryd.func35 rfl fun a hS => ?_
 have hE0 : Ext [] w w := Ext.refl _ _
 refine sq fun K1 hK1 => rgn 1 <| sg ww [.p] [] [(0, v), (1, u), (4, .bool false)] 1 0 hS .nil fun a hS => sge hK1 <| sq fun K2 hK2 => sdq 5 [.p, .run (I6 1), .p, .run (I6 1), .as (.bool false)] [Rv (Builtin.len_ #[51] 3 #[v]) (I6 1) w, Rv (Builtin.len_ #[51] 3 #[u]) (I6 1) w, Value.bool (((↑1 : Int) != ↑1)) = .bool false] [(10, .bool false)] [] hS (.c (rlr 3 hv) (.c (rlr 3 hu) (.c (as_ne_f (rfl)) .nil))) fun a hS => ?_
 refine cond_f hS rfl ?_
 refine wpIn_skip <| hK2 _ _ <| sq fun K4 hK4 => sdq 1 [.p] [] [(5, I6 0)] [] hS .nil fun a hS => wpIn_block ?_
 refine loop_ghost (fun (i : Nat) a' w' => St 26 [] [(0, v), (1, u), (5, I6 i)] a' ∧ Ext [] w w' ∧ i ≤ 1) (fun (i : Nat) => 1 - i) 0 ⟨hS.keepTo [0, 1, 5] (by kernel_rfl), hE0, by omega⟩ ?_
 rintro i a wl6 ⟨hS, hXl6, hi⟩
 refine sq fun K7 hK7 => sdq 4 [.p, .p, .run (I6 1), .p] [Rv (Builtin.len_ #[51] 3 #[v]) (I6 1) wl6] [(14, .bool (decide ((↑i : Int) < ↑1)))] [] hS (.c (rlr 3 hv) .nil) fun a hS => ?_
 refine cond_b hS rfl (fun hb9 => ?_) (fun hb9 => ?_)
 ·
  replace hb9 := of_decide_eq_true hb9
  obtain rfl : i = 0 := by omega
  refine wpIn_skip <| hK7 _ _ <| sq fun K10 hK10 => wpIn_block <| sq fun K11 hK11 => ?_
  refine fn3 [.q .p, .q .p, .q (.run ((Po (bof v) (oof v + 0 * 1)))), .q (.ld (I6 z)), .q .p, .q .p, .q (.run ((Po (bof u) (oof u + 0 * 1)))), .q (.ld (I6 z)), .q (.as (.bool false))] [0, 0, 0, 0, 0, 0, 0, 0, 0] [0, 0, 0, 0, 0, 0, 0, 0, 0] [0, 0, 3, 7, 0, 0, 48, 112, 255] [] 0 ([(0, v), (1, u), (5, I6 0), (17, v), (18, I6 0), (19, (Po (bof v) (oof v + 0 * 1))), (20, I6 z), (21, u), (22, I6 0), (23, (Po (bof u) (oof u + 0 * 1))), (24, I6 z), (25, .bool false)]) [wl6.drew] wl6.drew (fun w' => [(2, [Rv (Instr.indexAt 51 (v) (I6 0)) ((Po (bof v) (oof v + 0 * 1))) w']), (3, [w'.cell? ⟨bof v, oof v + 0 * 1, none⟩ = some (I6 z)]), (6, [Rv (Instr.indexAt 51 (u) (I6 0)) ((Po (bof u) (oof u + 0 * 1))) w']), (7, [w'.cell? ⟨bof u, oof u + 0 * 1, none⟩ = some (I6 z)]), (8, [Value.bool (((z : Int) != z)) = .bool false])]) [0, 1, 5] [] hS (fun _ => by kernel_rfl) ?_ ?_ ?_
  ·intro e w' hw
   refine (.c ?_ (.c ?_ (.c ?_ (.c ?_ (.c ?_ .nil)))))
   ·exact fun _ _ => (.c (ixr 3 0 hv) .nil)
   ·intro h1 h2
    obtain rfl := Nat.le_antisymm h2 h1
    obtain rfl : w' = wl6.drew := hw.trans (by kernel_rfl)
    exact (.c ((hv.ext0 (hXl6.trans0 (by first | exact (Ext.refl [] _).drew | exact Ext.refl [] _))).cellAt (0 * 1) (by omega) rfl) .nil)
   ·exact fun _ _ => (.c (ixr 3 0 hu) .nil)
   ·intro h1 h2
    obtain rfl := Nat.le_antisymm h2 h1
    obtain rfl : w' = wl6.drew := hw.trans (by kernel_rfl)
    exact (.c ((hu.ext0 (hXl6.trans0 (by first | exact (Ext.refl [] _).drew | exact Ext.refl [] _))).cellAt (0 * 1) (by omega) rfl) .nil)
   ·exact fun _ _ => (.c (as_ne_f (rfl)) .nil)
  ·refine .nil
  rintro a w13 hS hw14
  replace hw14 : w13 = wl6.drew := hw14.trans (by kernel_rfl)
  have hE15 : Ext [] w w13 := by rw [hw14]; exact hXl6.drew
  replace hS := hS.kp [(0, v), (1, u), (5, I6 0), (25, .bool false)]
  refine hK11 _ _ ?_
  refine cond_f hS rfl ?_
  refine wpIn_skip <| inBlock_normal <| hK10 _ _ <| rgn 3 <| sd ww [.p, .p, .p] [] [(5, I6 1)] [] 3 0 hS .nil fun a hS => seg_end ?_
  exact ⟨1, ⟨hS.kp [(0, v), (1, u), (5, I6 1)], hE15, by omega⟩, by omega⟩
 ·
  replace hb9 := of_decide_eq_false hb9
  refine xt2 <| hK4 _ _ <| sdq 1 [.p] [] [(4, .bool true)] [] hS .nil fun a hS => wpIn_ret ?_
  refine ret1 hS Tryd.results35 rfl ?_
  exact ⟨rfl, hXl6⟩
set_option maxHeartbeats 2000000 in
theorem GrownLists_any {w : World} {vb : Option Addr} {vc : Nat} {L : List Rw} (hF : Fam w 51 1 (fun b => b ∈ bl L ∨ w.heap.size ≤ b) L) (ha : OwnV w 37 1 (.slice vb L.length vc) L.length (L.map Rw.v)) (hm : L.length ≤ 4000000000) (hn : ∀ x ∈ L, x.n ≤ 1000000000) :
  Calls Tryd.prog 43 #[.slice vb L.length vc] w fun e w' => e = .returned (.bool true) ∧ Ext (bl L) w w' := by
 have hval := ha.lie
 have hEw0 : Ext (bl L) w w := Ext.refl _ _
 obtain ⟨ν, hν⟩ : ∃ ν : Nat → Nat, ∀ k q, (L.map Rw.n)[k]? = some q → ν k = q := ⟨fun k => ((L.map Rw.n)[k]?).getD 0, fun k q h => by simp [h]⟩
 refine cbd 135 [(0, .slice vb L.length vc)] Tryd.func43 rfl fun a hS => ?_
 refine sq fun K1 hK1 => rgn 1 <| sg ww [.p] [] [(0, .slice vb L.length vc), (2, .bool false)] 1 0 hS .nil fun a hS => sge hK1 <| sq fun K2 hK2 => sdq 1 [.p] [] [(3, I6 0)] [] hS .nil fun a hS => wpIn_block ?_
 refine loop_ghost (fun ((i, K, β) : Nat × List Rw × (Nat → Nat → Nat)) a' w' => St 135 [] [(0, .slice vb L.length vc), (3, I6 i)] a' ∧ i ≤ L.length ∧ K.map Rw.v = L.map Rw.v ∧ K.map Rw.n = L.map Rw.n ∧ Fam w' 51 1 (fun b => b ∈ bl L ∨ w.heap.size ≤ b) K ∧ Mk 1 (fL β) K i 0 ∧ OwnV w' 37 1 (.slice vb L.length vc) L.length (L.map Rw.v) ∧ Ext (bl L) w w' ∧ w.heap.size ≤ w'.heap.size ∧ Pb w' fV β ν i 0) (fun ((i, K, β) : Nat × List Rw × (Nat → Nat → Nat)) => L.length - i) (0, L, fun _ _ => 0) ⟨hS.keepTo [0, 3] (by kernel_rfl), Nat.zero_le _, rfl, rfl, hF, Mk.start, ha, hEw0, Nat.le_refl _, Pb.start⟩ ?_
 rintro ⟨i, K, β⟩ a w1 ⟨hS, hil, hKv, hKn, hF1, hM1, ha1, hEx, hsz1, hP1⟩
 refine sq fun K4 hK4 => sdq 4 [.p, .p, .p, .p] [] [(16, .bool (decide ((↑i : Int) < ↑L.length)))] [] hS .nil fun a hS => ?_
 refine cond_b hS rfl (fun hb6 => ?_) (fun hb6 => ?_)
 ·
  replace hb6 := of_decide_eq_true hb6
  have hi : i < L.length := by omega
  obtain ⟨nI, hnI⟩ : ∃ q, (L.map Rw.n)[i]? = some q := ⟨_, List.getElem?_eq_getElem (by simpa using hi)⟩
  have hnI9 : nI ≤ 1000000000 := by
   obtain ⟨y, hy, rfl⟩ := List.mem_map.1 (List.mem_of_getElem? hnI)
   exact hn y hy
  refine wpIn_skip <| hK4 _ _ <| sq fun K7 hK7 => wpIn_block <| sdq 1 [.p] [] [(4, I6 0)] [] hS .nil fun a hS => wpIn_block ?_
  refine loop_ghost (fun ((j, K, β) : Nat × List Rw × (Nat → Nat → Nat)) a' w' => St 135 [] [(0, .slice vb L.length vc), (3, I6 i), (4, I6 j)] a' ∧ j ≤ nI ∧ K.map Rw.v = L.map Rw.v ∧ K.map Rw.n = L.map Rw.n ∧ Fam w' 51 1 (fun b => b ∈ bl L ∨ w.heap.size ≤ b) K ∧ Mk 1 (fL β) K i j ∧ OwnV w' 37 1 (.slice vb L.length vc) L.length (L.map Rw.v) ∧ Ext (bl L) w w' ∧ w.heap.size ≤ w'.heap.size ∧ Pb w' fV β ν i j) (fun ((j, K, β) : Nat × List Rw × (Nat → Nat → Nat)) => nI - j) (0, K, β) ⟨hS.keepTo [0, 3, 4] (by kernel_rfl), Nat.zero_le _, hKv, hKn, hF1, hM1, ha1, hEx, hsz1, hP1⟩ ?_
  rintro ⟨j, K, β⟩ a w2 ⟨hS, hjn, hKv, hKn, hF2, hM2, ha2, hEy, hsz2, hP2⟩
  obtain ⟨x, hx⟩ : ∃ x, K[i]? = some x := ⟨_, List.getElem?_eq_getElem (by have := congrArg List.length hKv; simp at this; omega)⟩
  have hxn : x.n = nI := by have h := map_at hKn hx; rw [hnI] at h; exact (Option.some.inj h).symm
  have hxo := hF2.own i x hx
  have hxv0 : (L.map Rw.v)[i]? = some x.v := map_at hKv hx
  refine sq fun K9 hK9 => sdq 7 [.p, .p, .p, .run ((Po (bof (.slice vb L.length vc)) (0 + i * 1))), .ld (x.v), .run (I6 x.n), .p] [Rv (Instr.indexAt 90 (.slice vb L.length vc) (I6 i)) ((Po (bof (.slice vb L.length vc)) (0 + i * 1))) w2, w2.cell? ⟨bof (.slice vb L.length vc), 0 + i * 1, none⟩ = some (x.v), Rv (Builtin.len_ #[37] 3 #[x.v]) (I6 x.n) w2] [(25, .bool (decide ((↑j : Int) < ↑x.n)))] [] hS (.c (ix_own (j := i) (ha2) (by kernel_rfl) (by kernel_rfl) rfl (by omega)) (.c ((ha2).cellAt _ (by rw [Nat.zero_add, Nat.mul_one]; exact hxv0)) (.c (run_len_own hxo (by kernel_rfl)) .nil))) fun a hS => ?_
  refine cond_b hS rfl (fun hb11 => ?_) (fun hb11 => ?_)
  ·
   replace hb11 := of_decide_eq_true hb11
   obtain ⟨g, cap, hxv, hg⟩ := hxo.some_of_pos (by omega)
   have hgn := hF2.new i x hx g (by rw [hxv]; simp [ob])
   have hgX : Ext [g] w2 w2 := Ext.refl _ _
   have hxv1 : (L.map Rw.v)[i]? = some (Sl g x.n cap) := by have h := hxv0; rw [hxv] at h; exact h
   refine wpIn_skip <| hK9 _ _ <| sq fun K12 hK12 => wpIn_block <| rgn 12 <| sd ww [.p, .p, .run ((Po (bof (.slice vb L.length vc)) (0 + i * 1))), .ld (Sl g x.n cap), .p, .p, .as (I6 (100000 * ↑i)), .p, .as (I6 ((100000 * ↑i) + ↑j))] [Rv (Instr.indexAt 90 (.slice vb L.length vc) (I6 i)) ((Po (bof (.slice vb L.length vc)) (0 + i * 1))) w2, w2.cell? ⟨bof (.slice vb L.length vc), 0 + i * 1, none⟩ = some (Sl g x.n cap), Value.int .i64 (IntKind.i64.wrap (100000 * ↑i)) = I6 (100000 * ↑i), Value.int .i64 (IntKind.i64.wrap ((100000 * ↑i) + ↑j)) = I6 ((100000 * ↑i) + ↑j)] [(31, Sl g x.n cap), (32, I6 j), (36, I6 ((100000 * ↑i) + ↑j))] [] 9 3 hS (.c (ix_own (j := i) (ha2) (by kernel_rfl) (by kernel_rfl) rfl (by omega)) (.c ((ha2).cellAt _ (by rw [Nat.zero_add, Nat.mul_one]; exact hxv1)) (.c (as_i64 (by omega)) (.c (as_i64 (by omega)) .nil)))) fun a hS => eff_new ww (r := 2) (cs := #[I6 ((100000 * ↑i) + ↑j)]) (T := 3) (v := Value.slice (some ⟨w2.heap.size, 0, none⟩) 1 1) (d := (some 37)) hS (by kernel_rfl) fun a w13 hw14 hS => ?_
   have hn16 := Nat.ne_of_lt hg.lt
   have hB17 := OwnV.at' hw14 (ha2.alloc _)
   have hB18 := OwnR.at' hw14 (hg.alloc _)
   have hX19 : Ext [] w2 w13 := by rw [hw14]; exact (Ext.refl _ _).alloc _
   have hG20 : Ext [g] w2 w13 := hgX.trans hX19 (fun b hb => .inl (by first | exact hb | cases hb))
   have hB21 := Blk.nw hw14
   have hs22 := hEy.size
   have hE23 : Ext (bl L) w w13 := by rw [hw14]; exact hEy.alloc _
   refine sd ww [.run ((Po g (0 + j * 1)))] [Rv (Instr.indexAt 37 (Sl g x.n cap) (I6 j)) ((Po g (0 + j * 1))) w13] [(38, (Po g (0 + j * 1)))] [] 11 1 hS (.c (ixs 51 1 j) .nil) fun a hS => eff_store_own ww (r := 0) (b := g) (off := 0 + j * 1) (u := Value.slice (some ⟨w2.heap.size, 0, none⟩) 1 1) (xs := x.xs) hS (by kernel_rfl) hB18 (by omega) fun a ws24 hOs24 hEs24 hsz24 hS => ?_
   have hB25 := hB17.ext hEs24 (fun x hx hm => by simp at hm; exact (OwnV.neR hB17 hB18 (by decide)) x hx hm.symm)
   have hB26 := hB21.ext hEs24 (by simpa using (Ne.symm hn16))
   have hE27 : Ext (bl L) w ws24 := hE23.trans hEs24 (fun b hb => by simp at hb; subst hb; exact hgn)
   have hG28 : Ext [g] w2 ws24 := hG20.trans hEs24 (fun b hb => .inl (by first | exact hb | cases hb))
   refine seg_end <| inBlock_normal <| hK12 _ _ <| rgn 3 <| sd ww [.p, .as (I6 (↑j + 1)), .p] [_] [(4, I6 (↑j + 1))] [] 3 0 hS (as6 (↑j + 1)) fun a hS => seg_end ?_
   have hFs := hF2.set1 hx hxv hOs24 hG28
   have hMs := Mk.step (hM2.fcongr (f' := fL (bset β i j w2.heap.size)) fun k q h => fL_set h) hx (ys := (x.xs.set (0 + j * 1) (Value.slice (some ⟨w2.heap.size, 0, none⟩) 1 1))) (set1_mk hxo.len (by omega) fL_at)
   have hsz9 := Nat.le_trans hsz2 (hG28).size
   have hPs := hP2.put hG28 (fun b cs hb hm => by
    have h : b = g := by simpa using hm
    exact OwnR.ne_type hg hb (by decide) h.symm) hB26
   exact ⟨(j + 1, K.set i ⟨x.v, x.n, (x.xs.set (0 + j * 1) (Value.slice (some ⟨w2.heap.size, 0, none⟩) 1 1))⟩, bset β i j w2.heap.size), ⟨hS.kp [(0, .slice vb L.length vc), (3, I6 i), (4, I6 (↑j + 1))], by omega, (set_keep (y := ⟨x.v, x.n, (x.xs.set (0 + j * 1) (Value.slice (some ⟨w2.heap.size, 0, none⟩) 1 1))⟩) hx rfl).trans hKv, (set_keep (y := ⟨x.v, x.n, (x.xs.set (0 + j * 1) (Value.slice (some ⟨w2.heap.size, 0, none⟩) 1 1))⟩) hx rfl).trans hKn, hFs, hMs, hB25, hE27, hsz9, hPs⟩, by simp only; omega⟩
  ·
   replace hb11 := of_decide_eq_false hb11
   refine xt2 <| inBlock_normal <| hK7 _ _ <| rgn 3 <| sd ww [.p, .as (I6 (↑i + 1)), .p] [_] [(3, I6 (↑i + 1))] [] 3 0 hS (as6 (↑i + 1)) fun a hS => seg_end ?_
   exact ⟨(i + 1, K, β), ⟨hS.kp [(0, .slice vb L.length vc), (3, I6 (↑i + 1))], by omega, hKv, hKn, hF2, Mk.next hM2 hx (by omega), ha2, hEy, hsz2, hP2.next (by rw [hν i nI hnI]; omega)⟩, by simp only; omega⟩
 ·
  replace hb6 := of_decide_eq_false hb6
  obtain rfl : i = L.length := by omega
  have hKl : K.length = L.length := by have := congrArg List.length hKv; simpa using this
  have hG0 : Mg 1 70 (fL β) (tL fun _ _ => 0) (K.map Gw.of) 0 0 := Mk.two (by rw [hKl]; exact hM1)
  have hF20 := hF1.two
  have hGv0 : (K.map Gw.of).map Gw.v0 = L.map Rw.v := by rw [List.map_map]; exact hKv
  have hGn0 : ∀ x ∈ K.map Gw.of, x.n0 ≤ 1000000000 := fun x hx => by
   obtain ⟨y, hy, rfl⟩ := List.mem_map.1 hx
   exact map_all (f := Rw.n) (p := fun q => q ≤ 1000000000) hKn hn y hy
  have hGe0 : ∀ (k : Nat) (x : Gw), (K.map Gw.of)[k]? = some x → 0 ≤ k → x.v = x.v0 := fun k x hx _ => by
   obtain ⟨y, hy, rfl⟩ := map_of hx; rfl
  refine xt2 <| hK2 _ _ <| sq fun K29 hK29 => rgn 1 <| sg ww [.p] [] [(0, .slice vb L.length vc), (5, .slice none 0 0)] 1 0 hS .nil fun a hS => sge hK29 <| sq fun K30 hK30 => sdq 1 [.p] [] [(6, I6 0)] [] hS .nil fun a hS => wpIn_block ?_
  refine loop_ghost (fun ((i, G, bm, cm, γ) : Nat × List Gw × Option Addr × Nat × (Nat → Nat → Nat)) a' w' => St 135 [] [(0, .slice vb L.length vc), (5, .slice bm i cm), (6, I6 i)] a' ∧ i ≤ L.length ∧ G.map Gw.v0 = L.map Rw.v ∧ Fam2 w' 51 1 (fun b => b ∈ bl L ∨ w.heap.size ≤ b) G ∧ (∀ x ∈ G, x.n0 ≤ 1000000000) ∧ Mg 1 70 (fL β) (tL γ) G i 0 ∧ (∀ (k : Nat) (x : Gw), G[k]? = some x → i ≤ k → x.v = x.v0) ∧ OwnV w' 37 1 (.slice bm i cm) i ((G.take i).map Gw.v) ∧ (∀ b ∈ ob (.slice bm i cm), w.heap.size ≤ b) ∧ OwnV w' 37 1 (.slice vb L.length vc) L.length (L.map Rw.v) ∧ Ext (bl L) w w' ∧ w.heap.size ≤ w'.heap.size ∧ Pb w' fV β ν L.length 0 ∧ Pb w' tV γ (fun _ => 70) i 0) (fun ((i, G, bm, cm, γ) : Nat × List Gw × Option Addr × Nat × (Nat → Nat → Nat)) => L.length - i) (0, K.map Gw.of, none, 0, fun _ _ => 0) ⟨hS.keepTo [0, 5, 6] (by kernel_rfl), Nat.zero_le _, hGv0, hF20, hGn0, hG0, hGe0, OwnV.nil _ _ _, (by simp [ob]), ha1, hEx, hsz1, hP1, Pb.start⟩ ?_
  rintro ⟨i, G, bm, cm, γ⟩ a w3 ⟨hS, hil, hGv, hF3, hGn, hM3, hGe, hbm, hbmn, ha3, hEx, hsz3, hPf3, hPt3⟩
  have hv0w : ∀ (k : Nat) (y : Gw), G[k]? = some y → ∀ b ∈ ob y.v0, b < w.heap.size := fun k y hy b hb => by
   have h1 := map_at hGv hy
   rw [List.getElem?_map] at h1
   cases hL : L[k]? with
   | none => rw [hL] at h1; cases h1
   | some z =>
    rw [hL] at h1
    have h2 : z.v = y.v0 := Option.some.inj h1
    exact hF.lie hL b (by rw [h2]; exact hb)
  have hGl : G.length = L.length := by have := congrArg List.length hGv; simpa using this
  refine sq fun K32 hK32 => sdq 4 [.p, .p, .p, .p] [] [(42, .bool (decide ((↑i : Int) < ↑L.length)))] [] hS .nil fun a hS => ?_
  refine cond_b hS rfl (fun hb34 => ?_) (fun hb34 => ?_)
  ·
   replace hb34 := of_decide_eq_true hb34
   obtain ⟨x, hx⟩ : ∃ x, G[i]? = some x := gE
   have hxo := hF3.own i x hx
   have hxe := hGe i x hx (Nat.le_refl _)
   obtain ⟨gb, gc, hgv⟩ := hxo.form
   have hxn0 := hM3.n i x hx
   rw [show cnt 70 i 0 i = 0 by unfold cnt; rw [if_neg (Nat.lt_irrefl _), if_pos rfl], Nat.add_zero] at hxn0
   have hxb := hGn x (List.mem_of_getElem? hx)
   obtain ⟨nI, hnI⟩ : ∃ q, x.n0 = q := ⟨_, rfl⟩
   rw [hxn0, hnI] at hgv
   rw [hnI] at hxb
   have hxv1 : (L.map Rw.v)[i]? = some (.slice gb nI gc) := by rw [map_at hGv hx, ← hxe, hgv]
   refine wpIn_skip <| hK32 _ _ <| sq fun K35 hK35 => wpIn_block <| sdq 5 [.p, .p, .run ((Po (bof (.slice vb L.length vc)) (0 + i * 1))), .ld (.slice gb nI gc), .p] [Rv (Instr.indexAt 90 (.slice vb L.length vc) (I6 i)) ((Po (bof (.slice vb L.length vc)) (0 + i * 1))) w3, w3.cell? ⟨bof (.slice vb L.length vc), 0 + i * 1, none⟩ = some (.slice gb nI gc)] [(7, .slice gb nI gc)] [] hS (.c (ix_own (j := i) (ha3) (by kernel_rfl) (by kernel_rfl) rfl (by omega)) (.c ((ha3).cellAt _ (by rw [Nat.zero_add, Nat.mul_one]; exact hxv1)) .nil)) fun a hS => sq fun K37 hK37 => sdq 1 [.p] [] [(8, I6 0)] [] hS .nil fun a hS => wpIn_block ?_
   obtain ⟨VL, hVL⟩ : ∃ l, (G.take i).map Gw.v = l := ⟨_, rfl⟩
   rw [hVL] at hbm
   refine loop_ghost (fun ((j, G, gb, gc, γ) : Nat × List Gw × Option Addr × Nat × (Nat → Nat → Nat)) a' w' => St 135 [] [(0, .slice vb L.length vc), (5, .slice bm i cm), (6, I6 i), (7, .slice gb (nI + j) gc), (8, I6 j)] a' ∧ j ≤ 70 ∧ G.map Gw.v0 = L.map Rw.v ∧ Fam2 w' 51 1 (fun b => b ∈ bl L ∨ w.heap.size ≤ b) G ∧ (∀ x ∈ G, x.n0 ≤ 1000000000) ∧ Mg 1 70 (fL β) (tL γ) G i j ∧ (∀ (k : Nat) (x : Gw), G[k]? = some x → i < k → x.v = x.v0) ∧ (∃ x, G[i]? = some x ∧ x.v = .slice gb (nI + j) gc ∧ x.n0 = nI) ∧ (G.take i).map Gw.v = VL ∧ OwnV w' 37 1 (.slice bm i cm) i VL ∧ (∀ b ∈ ob (.slice bm i cm), w.heap.size ≤ b) ∧ OwnV w' 37 1 (.slice vb L.length vc) L.length (L.map Rw.v) ∧ Ext (bl L) w w' ∧ w.heap.size ≤ w'.heap.size ∧ Pb w' fV β ν L.length 0 ∧ Pb w' tV γ (fun _ => 70) i j) (fun ((j, G, gb, gc, γ) : Nat × List Gw × Option Addr × Nat × (Nat → Nat → Nat)) => 70 - j) (0, G, gb, gc, γ) ⟨hS.keepTo [0, 5, 6, 7, 8] (by kernel_rfl), Nat.zero_le _, hGv, hF3, hGn, hM3, (fun k y hy hk => hGe k y hy (by omega)), ⟨x, hx, hgv, hnI⟩, hVL, hbm, hbmn, ha3, hEx, hsz3, hPf3, hPt3⟩ ?_
   rintro ⟨j, G, gb, gc, γ⟩ a w4 ⟨hS, hjT, hGv, hF4, hGn, hM4, hGe4, ⟨x, hx4, hxv4, hxn04⟩, hVL4, hbm4, hbmn, ha4, hEy, hsz4, hPf4, hPt4⟩
   have hv0w : ∀ (k : Nat) (y : Gw), G[k]? = some y → ∀ b ∈ ob y.v0, b < w.heap.size := fun k y hy b hb => by
    have h1 := map_at hGv hy
    rw [List.getElem?_map] at h1
    cases hL : L[k]? with
    | none => rw [hL] at h1; cases h1
    | some z =>
     rw [hL] at h1
     have h2 : z.v = y.v0 := Option.some.inj h1
     exact hF.lie hL b (by rw [h2]; exact hb)
   have hxn4 := hM4.n i x hx4
   rw [show cnt 70 i j i = j by unfold cnt; rw [if_neg (Nat.lt_irrefl _), if_pos rfl], hxn04] at hxn4
   have hb4 := hF4.new i x hx4
   refine sq fun K39 hK39 => sdq 2 [.p, .p] [] [(50, .bool (decide ((↑j : Int) < 70)))] [] hS .nil fun a hS => ?_
   refine cond_b hS rfl (fun hb41 => ?_) (fun hb41 => ?_)
   ·
    replace hb41 := of_decide_eq_true hb41
    refine wpIn_skip <| hK39 _ _ <| sq fun K42 hK42 => wpIn_block <| rgn 10 <| sd ww [.p, .p, .as (I6 (100 * ↑i)), .as (I6 ((-1) - (100 * ↑i))), .p, .as (I6 (((-1) - (100 * ↑i)) - ↑j))] [Value.int .i64 (IntKind.i64.wrap (100 * ↑i)) = I6 (100 * ↑i), Value.int .i64 (IntKind.i64.wrap ((-1) - (100 * ↑i))) = I6 ((-1) - (100 * ↑i)), Value.int .i64 (IntKind.i64.wrap (((-1) - (100 * ↑i)) - ↑j)) = I6 (((-1) - (100 * ↑i)) - ↑j)] [(53, .slice gb (nI + j) gc), (58, I6 (((-1) - (100 * ↑i)) - ↑j))] [] 6 4 hS (.c (as_i64 (by omega)) (.c (as_i64 (by omega)) (.c (as_i64 (by omega)) .nil))) fun a hS => eff_new ww (r := 3) (cs := #[I6 (((-1) - (100 * ↑i)) - ↑j)]) (T := 3) (v := Value.slice (some ⟨w4.heap.size, 0, none⟩) 1 1) (d := (some 59)) hS (by kernel_rfl) fun a w43 hw44 hS => ?_
    have hB47 := OwnV.at' hw44 (ha4.alloc _)
    have hB48 := OwnV.at' hw44 (hbm4.alloc _)
    have hX49 : Ext [] w4 w43 := by rw [hw44]; exact (Ext.refl _ _).alloc _
    have hG50 : Pb w43 fV β ν L.length 0 := hPf4.ext hX49 (by simp)
    have hG51 : Pb w43 tV γ (fun _ => 70) i j := hPt4.ext hX49 (by simp)
    have hG52 : Fam2 w43 51 1 (fun b => b ∈ bl L ∨ w.heap.size ≤ b) G := hF4.ext0 hX49
    have hG53 : w.heap.size ≤ w43.heap.size := Nat.le_trans hsz4 (hX49).size
    have hB54 := Blk.nw hw44
    have hs55 := hEy.size
    have hE56 : Ext (bl L) w w43 := by rw [hw44]; exact hEy.alloc _
    refine eff_new ww (r := 2) (cs := #[Sl w4.heap.size 1 1]) (T := 51) (v := Value.slice (some ⟨w43.heap.size, 0, none⟩) 1 1) (d := (some 60)) hS (by kernel_rfl) fun a w57 hw58 hS => ?_
    have hB62 := OwnV.at' hw58 (hB47.alloc _)
    have hB63 := OwnV.at' hw58 (hB48.alloc _)
    have hB64 := Blk.at' hw58 (hB54.alloc _)
    have hX65 : Ext [] w43 w57 := by rw [hw58]; exact (Ext.refl _ _).alloc _
    have hG66 : Pb w57 fV β ν L.length 0 := hG50.ext hX65 (by simp)
    have hG67 : Pb w57 tV γ (fun _ => 70) i j := hG51.ext hX65 (by simp)
    have hG68 : Fam2 w57 51 1 (fun b => b ∈ bl L ∨ w.heap.size ≤ b) G := hG52.ext0 hX65
    have hG69 : w.heap.size ≤ w57.heap.size := Nat.le_trans hG53 (hX65).size
    have hB70 := Blk.nw hw58
    have hs71 := hE56.size
    have hE72 : Ext (bl L) w w57 := by rw [hw58]; exact hE56.alloc _
    have hOw73 := (by have h := (hG68).own i x hx4; rw [hxv4, hxn4] at h; exact h : OwnV w57 51 1 (.slice gb (nI + j) gc) (nI + j) x.xs)
    refine eff_append_rd ww (r := 1) (d := (some 61)) (t := 37) (ty := 37) (e := 51) (size := 1) (bytes := 24) (len := (nI + j)) (k := 1) (z := #[.slice none 0 0]) (v := (.slice gb (nI + j) gc)) (u := Value.slice (some ⟨w43.heap.size, 0, none⟩) 1 1) (xs := x.xs) (news := [Sl w4.heap.size 1 1]) hS (by kernel_rfl) (by kernel_rfl) (by kernel_rfl) (by kernel_rfl) hOw73 (RdV.of_blk (n := 1) hB70 rfl) rfl (by omega) (by omega) fun bs73 cp73 a wA73 hA73 hS => ?_
    have hFA73 := (hG68).app hx4 (by rw [hxv4, hxn4]; exact hA73) (fun b hb => .inr (Nat.le_trans hG69 hb))
    have hMA73 := Mg.step (hM4.tcongr (t' := tL (bset γ i j w4.heap.size)) fun k q h => fL_set h) hx4 (v := .slice bs73 (x.n + 1) cp73) (hF4.own i x hx4).len (news := [Sl w4.heap.size 1 1]) (one_mk fL_at)
    have hPA73 := (hG66).ext hA73.ext (fun b cs hb => OwnV.notin hOw73 hb (by decide))
    have hPB73 := (hG67).put hA73.ext (fun b cs hb => OwnV.notin hOw73 hb (by decide)) ((hB64).ext hA73.ext (OwnV.notin hOw73 hB64 (by decide)))
    have hszA73 := Nat.le_trans hG69 hA73.ext.size
    have hvaA73 := (hB62).ext hA73.ext ((hB62).disj hOw73 (by decide))
    have hbmA73 := (hB63).ext hA73.ext ((hB63).disj hOw73 (by decide))
    have hEA73 := hE72.trans hA73.ext (fun b hb => (hb4 b (List.mem_append_right _ (by rw [hxv4]; exact hb))).1)
    refine sd ww [.p] [] [(7, .slice bs73 (nI + j + 1) cp73)] [] 10 0 hS .nil fun a hS => seg_end <| inBlock_normal <| hK42 _ _ <| rgn 3 <| sd ww [.p, .as (I6 (↑j + 1)), .p] [_] [(8, I6 (↑j + 1))] [] 3 0 hS (as6 (↑j + 1)) fun a hS => seg_end ?_
    have hln73 : nI + j + 1 = nI + (j + 1) := by omega
    rw [hln73] at hS
    exact ⟨(j + 1, G.set i ⟨x.v0, x.n0, x.xs0, .slice bs73 (x.n + 1) cp73, x.n + 1, x.xs ++ [Sl w4.heap.size 1 1]⟩, bs73, cp73, bset γ i j w4.heap.size), ⟨hS.kp [(0, .slice vb L.length vc), (5, .slice bm i cm), (6, I6 i), (7, .slice bs73 (nI + (j + 1)) cp73), (8, I6 (↑j + 1))], by omega, (set_keep (y := ⟨x.v0, x.n0, x.xs0, .slice bs73 (x.n + 1) cp73, x.n + 1, x.xs ++ [Sl w4.heap.size 1 1]⟩) hx4 rfl).trans hGv, hFA73, (by
     intro y hy
     rcases List.mem_or_eq_of_mem_set hy with hy | rfl
     ·exact hGn y hy
     ·exact hGn x (List.mem_of_getElem? hx4)), hMA73, (by
     intro k y hy hk
     rcases get_set hx4 hy with ⟨h, _⟩ | ⟨_, hy⟩
     ·omega
     ·exact hGe4 k y hy hk), ⟨_, List.getElem?_set_self (List.getElem?_eq_some_iff.1 hx4).1, by simp only; rw [hxn4, hln73], hxn04⟩, take_set.trans hVL4, hbmA73, hbmn, hvaA73, hEA73, hszA73, hPA73, hPB73⟩, by simp only; omega⟩
   ·
    replace hb41 := of_decide_eq_false hb41
    obtain rfl : j = 70 := by omega
    refine xt2 <| hK37 _ _ <| rgn 5 <| sd ww [.p, .p] [] [(62, .slice bm i cm), (63, .slice gb (nI + 70) gc)] [] 2 3 hS .nil fun a hS => eff_new ww (r := 2) (cs := #[.slice gb (nI + 70) gc]) (T := 37) (v := Value.slice (some ⟨w4.heap.size, 0, none⟩) 1 1) (d := (some 64)) hS (by kernel_rfl) fun a w74 hw75 hS => ?_
    have hB78 := OwnV.at' hw75 (ha4.alloc _)
    have hB79 := OwnV.at' hw75 (hbm4.alloc _)
    have hX80 : Ext [] w4 w74 := by rw [hw75]; exact (Ext.refl _ _).alloc _
    have hG81 : Pb w74 fV β ν L.length 0 := hPf4.ext hX80 (by simp)
    have hG82 : Pb w74 tV γ (fun _ => 70) i 70 := hPt4.ext hX80 (by simp)
    have hG83 : Fam2 w74 51 1 (fun b => b ∈ bl L ∨ w.heap.size ≤ b) G := hF4.ext0 hX80
    have hG84 : w.heap.size ≤ w74.heap.size := Nat.le_trans hsz4 (hX80).size
    have hB85 := Blk.nw hw75
    have hs86 := hEy.size
    have hE87 : Ext (bl L) w w74 := by rw [hw75]; exact hEy.alloc _
    skip
    refine eff_append2 ww (r := 1) (d := (some 65)) (t := 90) (ty := 90) (e := 37) (size := 1) (bytes := 24) (len := i) (b := w4.heap.size) (off := 0) (k := 1) (c := 1) (z := #[.slice none 0 0]) (v := Value.slice bm i cm) (xs := VL) [.slice gb (nI + 70) gc] hS (by kernel_rfl) (by kernel_rfl) (by kernel_rfl) (by kernel_rfl) (by kernel_rfl) hB79 (by simp) (fun j u hu => by rw [Nat.zero_add]; exact hB85.cell j (by simpa using hu)) rfl (by omega) (by omega) (by omega) fun ga88 ca88 a wa88 hOa88 hEa88 hFa88 hS => ?_
    have hB89 := hB78.ext hEa88 ((fun x hx hm => by have h5 := hval x hx; have h6 := hbmn x hm; omega))
    have hE91 : Ext (bl L) w wa88 := hE87.trans hEa88 (fun b hb => .inr (hbmn b hb))
    have hG92 : Pb wa88 fV β ν L.length 0 := hG81.ext hEa88 (fun b cs hb => OwnV.notin hB79 hb (by decide))
    have hG93 : Pb wa88 tV γ (fun _ => 70) i 70 := hG82.ext hEa88 (fun b cs hb => OwnV.notin hB79 hb (by decide))
    have hG94 : Fam2 wa88 51 1 (fun b => b ∈ bl L ∨ w.heap.size ≤ b) G := hG83.ext hEa88 (fun k y hy b hb hm => (List.mem_append.1 hb).elim (fun h => by have h5 := hv0w k y hy b h; have h6 := hbmn b hm; omega) (fun h => (hG83.own k y hy).disj hB79 (by decide) b h hm))
    have hG95 : w.heap.size ≤ wa88.heap.size := Nat.le_trans hG84 (hEa88).size
    refine sd ww [.p] [] [(5, Sl ga88 (i + 1) ca88)] [] 5 0 hS .nil fun a hS => seg_end <| inBlock_normal <| hK35 _ _ <| rgn 3 <| sd ww [.p, .as (I6 (↑i + 1)), .p] [_] [(6, I6 (↑i + 1))] [] 3 0 hS (as6 (↑i + 1)) fun a hS => seg_end ?_
    have hbmN : OwnV wa88 37 1 (Sl ga88 (i + 1) ca88) (i + 1) ((G.take (i + 1)).map Gw.v) := by
     rw [take_snoc hx4, hxv4, hVL4]; exact hOa88.v
    exact ⟨(i + 1, G, (some ⟨ga88, 0, none⟩), ca88, γ), ⟨hS.kp [(0, .slice vb L.length vc), (5, Sl ga88 (i + 1) ca88), (6, I6 (↑i + 1))], by omega, hGv, hG94, hGn, Mg.next hM4, fun k y hy hk => hGe4 k y hy (by omega), hbmN, (by
     intro b hb
     have hb : b = ga88 := by simpa [ob] using hb
     rw [hb]
     rcases hFa88 ga88 (by simp) with h | h
     ·exact hbmn _ h
     ·exact Nat.le_trans hG84 h), hB89, hE91, hG95, hG92, hG93.next (Nat.le_refl _)⟩, by simp only; omega⟩
  ·
   replace hb34 := of_decide_eq_false hb34
   obtain rfl : i = L.length := by omega
   have hbm9 := hbm
   rw [List.take_of_length_le (by omega)] at hbm9
   refine xt2 <| hK30 _ _ <| sq fun K96 hK96 => sdq 1 [.p] [] [(9, I6 0)] [] hS .nil fun a hS => wpIn_block ?_
   have hFz := hF3
   have haz := ha3
   have hbz := hbm9
   have hEz := hEx
   have hEzz : Ext [] w3 w3 := Ext.refl _ _
   have hPf := hPf3
   have hPt := hPt3
   refine loop_ghost (fun (i : Nat) a' w' => St 135 [] [(0, .slice vb L.length vc), (5, .slice bm L.length cm), (9, I6 i)] a' ∧ i ≤ L.length ∧ Ext [] w3 w') (fun (i : Nat) => L.length - i) 0 ⟨hS.keepTo [0, 5, 9] (by kernel_rfl), Nat.zero_le _, hEzz⟩ ?_
   rintro i a w5 ⟨hS, hil, hE5⟩
   refine sq fun K98 hK98 => sdq 4 [.p, .p, .p, .p] [] [(69, .bool (decide ((↑i : Int) < ↑L.length)))] [] hS .nil fun a hS => ?_
   refine cond_b hS rfl (fun hb100 => ?_) (fun hb100 => ?_)
   ·
    replace hb100 := of_decide_eq_true hb100
    obtain ⟨x, hx⟩ : ∃ x, G[i]? = some x := gE
    have hxr := hFz.rd i x hx
    have hxo := hFz.own i x hx
    have hxs := hFz.sh i x hx
    have hxn := hM3.n i x hx
    rw [show cnt 70 L.length 0 i = 70 by unfold cnt; rw [if_pos (by omega)]] at hxn
    have hxb := hGn x (List.mem_of_getElem? hx)
    obtain ⟨nI, hnI⟩ : ∃ q, x.n0 = q := ⟨_, rfl⟩
    have hxm := hM3.m i
    have hxt := hM3.t i
    rw [hnI] at hxr hxn hxb
    have hv1 : (L.map Rw.v)[i]? = some x.v0 := map_at hGv hx
    have hv2 : (G.map Gw.v)[i]? = some x.v := by rw [List.getElem?_map, hx]; rfl
    have hmk : ∀ k r, k < nI → r < 1 → x.xs0[k * 1 + r]? = ((fL β) i k)[r]? := fun k r hk hr => hM3.m i k r x hx (by omega) hr
    have hmx : ∀ k r, k < nI → r < 1 → x.xs[k * 1 + r]? = ((fL β) i k)[r]? := fun k r hk hr => by
     have h := hmk k r hk hr
     rw [hxs.2.1, hnI, List.getElem?_take] at h
     have hb : k * 1 + r < nI * 1 := by
      have : (k + 1) * 1 ≤ nI * 1 := Nat.mul_le_mul_right _ (by omega)
      rw [Nat.add_mul, Nat.one_mul] at this; omega
     rw [if_pos hb] at h; exact h
    have hmt : ∀ k r, k < 70 → r < 1 → x.xs[(nI + k) * 1 + r]? = ((tL γ) i k)[r]? := fun k r hk hr => by
     have h := hM3.t i k r x hx (by unfold cnt; rw [if_pos (by omega)]; exact hk) hr
     rw [hnI] at h; exact h
    have hνi : ν i = nI := nu_of hF hν hv1 hxr
    refine wpIn_skip <| hK98 _ _ <| sq fun K101 hK101 => wpIn_block <| sdq 6 [.p, .p, .run ((Po (bof (.slice vb L.length vc)) (0 + i * 1))), .ld (x.v0), .run (I6 nI), .p] [Rv (Instr.indexAt 90 (.slice vb L.length vc) (I6 i)) ((Po (bof (.slice vb L.length vc)) (0 + i * 1))) w5, w5.cell? ⟨bof (.slice vb L.length vc), 0 + i * 1, none⟩ = some (x.v0), Rv (Builtin.len_ #[37] 3 #[x.v0]) (I6 nI) w5] [(10, I6 nI)] [] hS (.c (ix_own (j := i) ((haz.ext0' hE5)) (by kernel_rfl) (by kernel_rfl) rfl (by omega)) (.c ((haz.ext0' hE5).cellAt _ (by rw [Nat.zero_add, Nat.mul_one]; exact hv1)) (.c (rlr 51 hxr) .nil))) fun a hS => sq fun K103 hK103 => sdq 1 [.p] [] [(11, I6 0)] [] hS .nil fun a hS => wpIn_block ?_
    have hE511 := hE5
    refine loop_ghost (fun (k : Nat) a' w' => St 135 [] [(0, .slice vb L.length vc), (5, .slice bm L.length cm), (9, I6 i), (10, I6 nI), (11, I6 k)] a' ∧ k ≤ nI ∧ Ext [] w3 w') (fun (k : Nat) => nI - k) 0 ⟨hS.keepTo [0, 5, 9, 10, 11] (by kernel_rfl), Nat.zero_le _, hE511⟩ ?_
    rintro k a w6 ⟨hS, hkl, hE6⟩
    refine sq fun K105 hK105 => sdq 3 [.p, .p, .p] [] [(79, .bool (decide ((↑k : Int) < ↑nI)))] [] hS .nil fun a hS => ?_
    refine cond_b hS rfl (fun hb107 => ?_) (fun hb107 => ?_)
    ·
     replace hb107 := of_decide_eq_true hb107
     refine wpIn_skip <| hK105 _ _ <| sq fun K108 hK108 => wpIn_block <| sq fun K109 hK109 => ?_
     refine gh3 (G := World × World) [.q .p, .q .p, .q (.run ((Po (bof (.slice vb L.length vc)) (0 + i * 1)))), .q (.ld (x.v0)), .q .p, .q (.run ((Po (bof x.v0) (oof x.v0 + k * 1)))), .q (.ld (Sl (β i k) 1 1)), .q .p, .q (.as (I6 (100000 * ↑i))), .q .p, .q (.as (I6 ((100000 * ↑i) + ↑k))), .e, .e, .q .p, .q .p, .q .p, .q .p, .q (.run ((Po (bof (.slice bm L.length cm)) (0 + i * 1)))), .q (.ld (x.v)), .q .p, .q (.run ((Po (bof x.v) (oof x.v + k * 1)))), .q (.ld (Sl (β i k) 1 1)), .q .p, .q .p, .q (.run ((Po (bof (.slice vb L.length vc)) (0 + i * 1)))), .q (.ld (x.v0)), .q .p, .q (.run ((Po (bof x.v0) (oof x.v0 + k * 1)))), .q (.ld (Sl (β i k) 1 1)), .e, .q .p, .q .p] [0, 0, 0, 0, 0, 0, 0, 0, 0, 0, 0, 0, 1, 2, 2, 2, 2, 2, 2, 2, 2, 2, 2, 2, 2, 2, 2, 2, 2, 2, 3, 3] [1, 1, 1, 1, 1, 1, 1, 0, 0, 0, 0, 0, 1, 2, 2, 2, 2, 2, 2, 2, 2, 2, 2, 2, 2, 2, 2, 2, 2, 2, 3, 3] [0, 0, 3, 7, 0, 31, 63, 0, 128, 0, 896, 1920, 4095, 8191, 16383, 32767, 32767, 131071, 262143, 32767, 1048575, 2097151, 32767, 32767, 12615679, 29392895, 32767, 130056191, 264273919, 536870911, 1073741823, 2147483647] [11, 12, 29] [(11, 0), (12, 1), (29, 2)] 3 (fun ⟨wc110, wc111⟩ => ([(0, .slice vb L.length vc), (5, .slice bm L.length cm), (9, I6 i), (10, I6 nI), (11, I6 k), (82, .slice vb L.length vc), (83, I6 i), (84, (Po (bof (.slice vb L.length vc)) (0 + i * 1))), (85, x.v0), (86, I6 k), (87, (Po (bof x.v0) (oof x.v0 + k * 1))), (88, Sl (β i k) 1 1), (89, I6 i), (90, I6 (100000 * ↑i)), (91, I6 k), (92, I6 ((100000 * ↑i) + ↑k)), (93, Sl w6.heap.size 1 1), (94, .bool true), (95, .bool false), (96, .bool false), (97, .slice bm L.length cm), (98, I6 i), (99, (Po (bof (.slice bm L.length cm)) (0 + i * 1))), (100, x.v), (101, I6 k), (102, (Po (bof x.v) (oof x.v + k * 1))), (103, Sl (β i k) 1 1), (104, .slice vb L.length vc), (105, I6 i), (106, (Po (bof (.slice vb L.length vc)) (0 + i * 1))), (107, x.v0), (108, I6 k), (109, (Po (bof x.v0) (oof x.v0 + k * 1))), (110, Sl (β i k) 1 1), (111, .bool true), (112, .bool false), (113, .bool false)] : Fm)) (fun ⟨wc110, wc111⟩ => [w6.drew, (w6.drew).alloc (.cells #[I6 ((100000 * ↑i) + ↑k)] 3), wc110, wc111]) (w6.drew) (fun e ⟨wc110, wc111⟩ => hAt [True, True, (Ext [] ((w6.drew).alloc (.cells #[I6 ((100000 * ↑i) + ↑k)] 3)) wc110) ∧ True, (Ext [] ((w6.drew).alloc (.cells #[I6 ((100000 * ↑i) + ↑k)] 3)) wc110) ∧ (Ext [] wc110 wc111) ∧ True] e) (fun ⟨wc110, wc111⟩ w' => [(2, [Rv (Instr.indexAt 90 (.slice vb L.length vc) (I6 i)) ((Po (bof (.slice vb L.length vc)) (0 + i * 1))) w']), (3, [w'.cell? ⟨bof (.slice vb L.length vc), 0 + i * 1, none⟩ = some (x.v0)]), (5, [Rv (Instr.indexAt 37 (x.v0) (I6 k)) ((Po (bof x.v0) (oof x.v0 + k * 1))) w']), (6, [w'.cell? ⟨bof x.v0, oof x.v0 + k * 1, none⟩ = some (Sl (β i k) 1 1)]), (8, [Value.int .i64 (IntKind.i64.wrap (100000 * ↑i)) = I6 (100000 * ↑i)]), (10, [Value.int .i64 (IntKind.i64.wrap ((100000 * ↑i) + ↑k)) = I6 ((100000 * ↑i) + ↑k)]), (17, [Rv (Instr.indexAt 90 (.slice bm L.length cm) (I6 i)) ((Po (bof (.slice bm L.length cm)) (0 + i * 1))) w']), (18, [w'.cell? ⟨bof (.slice bm L.length cm), 0 + i * 1, none⟩ = some (x.v)]), (20, [Rv (Instr.indexAt 37 (x.v) (I6 k)) ((Po (bof x.v) (oof x.v + k * 1))) w']), (21, [w'.cell? ⟨bof x.v, oof x.v + k * 1, none⟩ = some (Sl (β i k) 1 1)]), (24, [Rv (Instr.indexAt 90 (.slice vb L.length vc) (I6 i)) ((Po (bof (.slice vb L.length vc)) (0 + i * 1))) w']), (25, [w'.cell? ⟨bof (.slice vb L.length vc), 0 + i * 1, none⟩ = some (x.v0)]), (27, [Rv (Instr.indexAt 37 (x.v0) (I6 k)) ((Po (bof x.v0) (oof x.v0 + k * 1))) w']), (28, [w'.cell? ⟨bof x.v0, oof x.v0 + k * 1, none⟩ = some (Sl (β i k) 1 1)])]) (w, w) [0, 5, 9, 10, 11] [] hS (fun ⟨wc110, wc111⟩ _ => by kernel_rfl) trivial ?_ ?_ ?_
     ·rintro e ⟨wc110, wc111⟩ w' hw hH
      refine (.c ?_ (.c ?_ (.c ?_ (.c ?_ (.c ?_ (.c ?_ (.c ?_ (.c ?_ (.c ?_ (.c ?_ (.c ?_ (.c ?_ (.c ?_ (.c ?_ .nil))))))))))))))
      ·intro h1 h2
       replace h1 : 0 ≤ e := h1
       replace h2 : e ≤ 1 := h2
       have he : e = 0 ∨ e = 1 := by omega
       rcases he with rfl | rfl
       ·have hwe : w6.drew = w' := hwz hw
        subst hwe
        clear hH
        exact (.c (ix_own (j := i) ((haz.ext0' hE6)) (by kernel_rfl) (by kernel_rfl) rfl (by omega)) .nil)
       ·have hwe : (w6.drew).alloc (.cells #[I6 ((100000 * ↑i) + ↑k)] 3) = w' := hwz hw
        subst hwe
        clear hH
        exact (.c (ix_own (j := i) ((haz.ext0' hE6)) (by kernel_rfl) (by kernel_rfl) rfl (by omega)) .nil)
      ·intro h1 h2
       replace h1 : 0 ≤ e := h1
       replace h2 : e ≤ 1 := h2
       have he : e = 0 ∨ e = 1 := by omega
       rcases he with rfl | rfl
       ·have hwe : w6.drew = w' := hwz hw
        subst hwe
        clear hH
        exact (.c (((haz.ext0' (by first | exact hE6.drew | exact hE6 | exact hE6.drew.alloc _ | exact (hE6.drew.alloc _).trans0 (by assumption) | exact ((hE6.drew.alloc _).trans0 (by assumption)).trans0 (by assumption))).cellAt _ (by rw [Nat.zero_add, Nat.mul_one]; exact hv1))) .nil)
       ·have hwe : (w6.drew).alloc (.cells #[I6 ((100000 * ↑i) + ↑k)] 3) = w' := hwz hw
        subst hwe
        clear hH
        exact (.c (((haz.ext0' (by first | exact hE6.drew | exact hE6 | exact hE6.drew.alloc _ | exact (hE6.drew.alloc _).trans0 (by assumption) | exact ((hE6.drew.alloc _).trans0 (by assumption)).trans0 (by assumption))).cellAt _ (by rw [Nat.zero_add, Nat.mul_one]; exact hv1))) .nil)
      ·intro h1 h2
       replace h1 : 0 ≤ e := h1
       replace h2 : e ≤ 1 := h2
       have he : e = 0 ∨ e = 1 := by omega
       rcases he with rfl | rfl
       ·have hwe : w6.drew = w' := hwz hw
        subst hwe
        clear hH
        exact (.c (ixr 51 k hxr) .nil)
       ·have hwe : (w6.drew).alloc (.cells #[I6 ((100000 * ↑i) + ↑k)] 3) = w' := hwz hw
        subst hwe
        clear hH
        exact (.c (ixr 51 k hxr) .nil)
      ·intro h1 h2
       replace h1 : 0 ≤ e := h1
       replace h2 : e ≤ 1 := h2
       have he : e = 0 ∨ e = 1 := by omega
       rcases he with rfl | rfl
       ·have hwe : w6.drew = w' := hwz hw
        subst hwe
        clear hH
        exact (.c (((hxr.ext0 (by first | exact hE6.drew | exact hE6 | exact hE6.drew.alloc _ | exact (hE6.drew.alloc _).trans0 (by assumption) | exact ((hE6.drew.alloc _).trans0 (by assumption)).trans0 (by assumption))).cellAt (k * 1 + 0) (by omega) ((hmk k 0 (by omega) (by decide)).trans rfl))) .nil)
       ·have hwe : (w6.drew).alloc (.cells #[I6 ((100000 * ↑i) + ↑k)] 3) = w' := hwz hw
        subst hwe
        clear hH
        exact (.c (((hxr.ext0 (by first | exact hE6.drew | exact hE6 | exact hE6.drew.alloc _ | exact (hE6.drew.alloc _).trans0 (by assumption) | exact ((hE6.drew.alloc _).trans0 (by assumption)).trans0 (by assumption))).cellAt (k * 1 + 0) (by omega) ((hmk k 0 (by omega) (by decide)).trans rfl))) .nil)
      ·intro h1 h2
       obtain rfl := Nat.le_antisymm h2 h1
       have hwe : w6.drew = w' := hwz hw
       subst hwe
       clear hH
       exact (.c (as_i64 (by omega)) .nil)
      ·intro h1 h2
       obtain rfl := Nat.le_antisymm h2 h1
       have hwe : w6.drew = w' := hwz hw
       subst hwe
       clear hH
       exact (.c (as_i64 (by omega)) .nil)
      ·intro h1 h2
       obtain rfl := Nat.le_antisymm h2 h1
       have hwe : wc110 = w' := hwz hw
       subst hwe
       obtain ⟨hEc110, _⟩ := hH
       exact (.c (ix_own (j := i) ((hbz.ext0' hE6)) (by kernel_rfl) (by kernel_rfl) rfl (by omega)) .nil)
      ·intro h1 h2
       obtain rfl := Nat.le_antisymm h2 h1
       have hwe : wc110 = w' := hwz hw
       subst hwe
       obtain ⟨hEc110, _⟩ := hH
       exact (.c (((hbz.ext0' (by first | exact hE6.drew | exact hE6 | exact hE6.drew.alloc _ | exact (hE6.drew.alloc _).trans0 (by assumption) | exact ((hE6.drew.alloc _).trans0 (by assumption)).trans0 (by assumption))).cellAt _ (by rw [Nat.zero_add, Nat.mul_one]; exact hv2))) .nil)
      ·intro h1 h2
       obtain rfl := Nat.le_antisymm h2 h1
       have hwe : wc110 = w' := hwz hw
       subst hwe
       obtain ⟨hEc110, _⟩ := hH
       exact (.c (ixr 51 k hxo.rd) .nil)
      ·intro h1 h2
       obtain rfl := Nat.le_antisymm h2 h1
       have hwe : wc110 = w' := hwz hw
       subst hwe
       obtain ⟨hEc110, _⟩ := hH
       exact (.c (((hxo.rd.ext0 (by first | exact hE6.drew | exact hE6 | exact hE6.drew.alloc _ | exact (hE6.drew.alloc _).trans0 (by assumption) | exact ((hE6.drew.alloc _).trans0 (by assumption)).trans0 (by assumption))).cellAt (k * 1 + 0) (by omega) ((hmx k 0 (by omega) (by decide)).trans rfl))) .nil)
      ·intro h1 h2
       obtain rfl := Nat.le_antisymm h2 h1
       have hwe : wc110 = w' := hwz hw
       subst hwe
       obtain ⟨hEc110, _⟩ := hH
       exact (.c (ix_own (j := i) ((haz.ext0' hE6)) (by kernel_rfl) (by kernel_rfl) rfl (by omega)) .nil)
      ·intro h1 h2
       obtain rfl := Nat.le_antisymm h2 h1
       have hwe : wc110 = w' := hwz hw
       subst hwe
       obtain ⟨hEc110, _⟩ := hH
       exact (.c (((haz.ext0' (by first | exact hE6.drew | exact hE6 | exact hE6.drew.alloc _ | exact (hE6.drew.alloc _).trans0 (by assumption) | exact ((hE6.drew.alloc _).trans0 (by assumption)).trans0 (by assumption))).cellAt _ (by rw [Nat.zero_add, Nat.mul_one]; exact hv1))) .nil)
      ·intro h1 h2
       obtain rfl := Nat.le_antisymm h2 h1
       have hwe : wc110 = w' := hwz hw
       subst hwe
       obtain ⟨hEc110, _⟩ := hH
       exact (.c (ixr 51 k hxr) .nil)
      ·intro h1 h2
       obtain rfl := Nat.le_antisymm h2 h1
       have hwe : wc110 = w' := hwz hw
       subst hwe
       obtain ⟨hEc110, _⟩ := hH
       exact (.c (((hxr.ext0 (by first | exact hE6.drew | exact hE6 | exact hE6.drew.alloc _ | exact (hE6.drew.alloc _).trans0 (by assumption) | exact ((hE6.drew.alloc _).trans0 (by assumption)).trans0 (by assumption))).cellAt (k * 1 + 0) (by omega) ((hmk k 0 (by omega) (by decide)).trans rfl))) .nil)
     ·refine (.c ?eq112_11 (.c ?eq112_12 (.c ?eq112_29 .nil)))
      ·rintro ⟨wc110, wc111⟩ hH
       clear hH
       refine eff_gh (w6.drew) (by kernel_rfl) ?_
       exact upon_new (nb := w6.heap.size) (cs := #[I6 ((100000 * ↑i) + ↑k)]) (T := 3) (v := Value.slice (some ⟨w6.heap.size, 0, none⟩) 1 1) (d := (some 93)) (by kernel_rfl) (by first | rfl | simp [upd_size]) ⟨(wc110, wc111), by kernel_rfl, by kernel_rfl, by kernel_rfl, trivial⟩
      ·rintro ⟨wc110, wc111⟩ hH
       clear hH
       refine eff_gh ((w6.drew).alloc (.cells #[I6 ((100000 * ↑i) + ↑k)] 3)) (by kernel_rfl) ?_
       refine upon_call (f := 35) (vs := [Sl (β i k) 1 1, Sl w6.heap.size 1 1]) (cap := #[]) (d := (some 94)) (by kernel_rfl) Tryd.call35 #[Sl (β i k) 1 1, Sl w6.heap.size 1 1] (by kernel_rfl) (SameZ_eq (RdV.of_blk (n := 1) ((hPf i k (by omega) (.inl (by omega))).ext (hE6.trans0 ((((Ext.refl [] _).drew)).alloc _)) (by simp)) rfl) (RdV.of_blk (n := 1) (Blk.new' _ _ _ (by first | rfl | simp [upd_size]) : Blk ((w6.drew).alloc (.cells #[I6 ((100000 * ↑i) + ↑k)] 3)) w6.heap.size 3 (#[I6 ((100000 * ↑i) + ↑k)])) rfl)) ?_
       rintro _ wc110 ⟨rfl, hEc110⟩
       exact ⟨_, rfl, ⟨(wc110, wc111), by kernel_rfl, by kernel_rfl, by kernel_rfl, ⟨hEc110, trivial⟩⟩⟩
      ·rintro ⟨wc110, wc111⟩ hH
       obtain ⟨hEc110, _⟩ := hH
       refine eff_gh (wc110) (by kernel_rfl) ?_
       refine upon_call (f := 35) (vs := [Sl (β i k) 1 1, Sl (β i k) 1 1]) (cap := #[]) (d := (some 111)) (by kernel_rfl) Tryd.call35 #[Sl (β i k) 1 1, Sl (β i k) 1 1] (by kernel_rfl) (SameZ_eq (RdV.of_blk (n := 1) ((hPf i k (by omega) (.inl (by omega))).ext (hE6.trans0 ((((((Ext.refl [] _).drew)).alloc _)).trans0 hEc110)) (by simp)) rfl) (RdV.of_blk (n := 1) ((hPf i k (by omega) (.inl (by omega))).ext (hE6.trans0 ((((((Ext.refl [] _).drew)).alloc _)).trans0 hEc110)) (by simp)) rfl)) ?_
       rintro _ wc111 ⟨rfl, hEc111⟩
       exact ⟨_, rfl, ⟨(wc110, wc111), by kernel_rfl, by kernel_rfl, by kernel_rfl, ⟨hEc110, hEc111, trivial⟩⟩⟩
     rintro ⟨wc110, wc111⟩ a w113 hS hw114 hH
     obtain ⟨hEc110, hEc111, _⟩ := hH
     replace hw114 : w113 = wc111 := hw114.trans (by kernel_rfl)
     have hE118 : Ext [] w3 w113 := by rw [hw114]; exact (((hE6.drew).alloc _).trans0 hEc110).trans0 hEc111
     replace hS := hS.kp [(0, .slice vb L.length vc), (5, .slice bm L.length cm), (9, I6 i), (10, I6 nI), (11, I6 k), (113, .bool false)]
     refine hK109 _ _ ?_
     refine cond_f hS rfl ?_
     refine wpIn_skip <| inBlock_normal <| hK108 _ _ <| rgn 3 <| sd ww [.p, .as (I6 (↑k + 1)), .p] [_] [(11, I6 (↑k + 1))] [] 3 0 hS (as6 (↑k + 1)) fun a hS => seg_end ?_
     exact ⟨k + 1, ⟨hS.kp [(0, .slice vb L.length vc), (5, .slice bm L.length cm), (9, I6 i), (10, I6 nI), (11, I6 (↑k + 1))], by omega, hE118⟩, by omega⟩
    ·
     replace hb107 := of_decide_eq_false hb107
     refine xt2 <| hK103 _ _ <| sdq 1 [.p] [] [(12, I6 0)] [] hS .nil fun a hS => wpIn_block ?_
     have hE512 := hE6
     refine loop_ghost (fun (k : Nat) a' w' => St 135 [] [(0, .slice vb L.length vc), (5, .slice bm L.length cm), (9, I6 i), (10, I6 nI), (12, I6 k)] a' ∧ k ≤ 70 ∧ Ext [] w3 w') (fun (k : Nat) => 70 - k) 0 ⟨hS.keepTo [0, 5, 9, 10, 12] (by kernel_rfl), Nat.zero_le _, hE512⟩ ?_
     rintro k a w6 ⟨hS, hkl, hE6⟩
     refine sq fun K120 hK120 => sdq 2 [.p, .p] [] [(115, .bool (decide ((↑k : Int) < 70)))] [] hS .nil fun a hS => ?_
     refine cond_b hS rfl (fun hb122 => ?_) (fun hb122 => ?_)
     ·
      replace hb122 := of_decide_eq_true hb122
      refine wpIn_skip <| hK120 _ _ <| sq fun K123 hK123 => wpIn_block <| sq fun K124 hK124 => rgn 17 <| sd ww [.p, .p, .run ((Po (bof (.slice bm L.length cm)) (0 + i * 1))), .ld (x.v), .p, .p, .as (I6 ((nI + k : Nat) : Int)), .run ((Po (bof x.v) (oof x.v + (nI + k) * 1))), .ld (Sl (γ i k) 1 1), .p, .as (I6 (100 * ↑i)), .as (I6 ((-1) - (100 * ↑i))), .p, .as (I6 (((-1) - (100 * ↑i)) - ↑k))] [Rv (Instr.indexAt 90 (.slice bm L.length cm) (I6 i)) ((Po (bof (.slice bm L.length cm)) (0 + i * 1))) w6, w6.cell? ⟨bof (.slice bm L.length cm), 0 + i * 1, none⟩ = some (x.v), Value.int .i64 (IntKind.i64.wrap (↑nI + ↑k)) = I6 ((nI + k : Nat) : Int), Rv (Instr.indexAt 37 (x.v) (I6 ((nI + k : Nat) : Int))) ((Po (bof x.v) (oof x.v + (nI + k) * 1))) w6, w6.cell? ⟨bof x.v, oof x.v + (nI + k) * 1, none⟩ = some (Sl (γ i k) 1 1), Value.int .i64 (IntKind.i64.wrap (100 * ↑i)) = I6 (100 * ↑i), Value.int .i64 (IntKind.i64.wrap ((-1) - (100 * ↑i))) = I6 ((-1) - (100 * ↑i)), Value.int .i64 (IntKind.i64.wrap (((-1) - (100 * ↑i)) - ↑k)) = I6 (((-1) - (100 * ↑i)) - ↑k)] [(126, Sl (γ i k) 1 1), (131, I6 (((-1) - (100 * ↑i)) - ↑k))] [] 14 3 hS (.c (ix_own (j := i) ((hbz.ext0' hE6)) (by kernel_rfl) (by kernel_rfl) rfl (by omega)) (.c ((hbz.ext0' hE6).cellAt _ (by rw [Nat.zero_add, Nat.mul_one]; exact hv2)) (.c ((by rw [show (↑nI + ↑k : Int) = ((nI + k : Nat) : Int) from by omega]; exact as_i64 (by omega))) (.c (ixr 51 (nI + k) hxo.rd) (.c ((hxo.rd.ext0 hE6).cellAt ((nI + k) * 1 + 0) (by omega) ((hmt k 0 (by omega) (by decide)).trans rfl)) (.c (as_i64 (by omega)) (.c (as_i64 (by omega)) (.c (as_i64 (by omega)) .nil)))))))) fun a hS => eff_new ww (r := 2) (cs := #[I6 (((-1) - (100 * ↑i)) - ↑k)]) (T := 3) (v := Value.slice (some ⟨w6.heap.size, 0, none⟩) 1 1) (d := (some 132)) hS (by kernel_rfl) fun a w125 hw126 hS => ?_
      have hB131 := Blk.nw hw126
      have hs132 := hE6.size
      have hE133 := hE6.al hw126
      refine ecl 1 (some 133) hS Tryd.call35 #[Sl (γ i k) 1 1, Sl w6.heap.size 1 1] (SameZ_eq (RdV.of_blk (n := 1) ((hPt i k (show k < 70 by omega) (.inl (by omega))).ext hE133 (by simp)) rfl) (RdV.of_blk (n := 1) (hB131 : Blk w125 w6.heap.size 3 (#[I6 (((-1) - (100 * ↑i)) - ↑k)])) rfl)) ?_
      rintro _ wc134 ⟨rfl, hEc134⟩
      refine ⟨_, rfl, fun a hS => ?_⟩
      have hE138 := hE133.trans0 hEc134
      refine sd ww [.p] [] [(134, .bool false)] [] 17 0 hS .nil fun a hS => sge hK124 ?_
      refine cond_f hS rfl ?_
      refine wpIn_skip <| inBlock_normal <| hK123 _ _ <| rgn 3 <| sd ww [.p, .as (I6 (↑k + 1)), .p] [_] [(12, I6 (↑k + 1))] [] 3 0 hS (as6 (↑k + 1)) fun a hS => seg_end ?_
      exact ⟨k + 1, ⟨hS.kp [(0, .slice vb L.length vc), (5, .slice bm L.length cm), (9, I6 i), (10, I6 nI), (12, I6 (↑k + 1))], by omega, hE138⟩, by omega⟩
     ·
      replace hb122 := of_decide_eq_false hb122
      refine xt2 <| inBlock_normal <| hK101 _ _ <| rgn 3 <| sd ww [.p, .as (I6 (↑i + 1)), .p] [_] [(9, I6 (↑i + 1))] [] 3 0 hS (as6 (↑i + 1)) fun a hS => seg_end ?_
      exact ⟨i + 1, ⟨hS.kp [(0, .slice vb L.length vc), (5, .slice bm L.length cm), (9, I6 (↑i + 1))], by omega, hE6⟩, by omega⟩
   ·
    replace hb100 := of_decide_eq_false hb100
    refine xt2 <| hK96 _ _ <| sdq 1 [.p] [] [(2, .bool true)] [] hS .nil fun a hS => wpIn_ret ?_
    refine ret1 hS Tryd.results43 rfl ?_
    exact ⟨rfl, hEz.trans0 hE5⟩
end Go.Proofs.YtkkpghlcmcaoiaaDoor
