import Derived.Test.YtkkpghlcmcaoiaaDoorS24
import Derived.Test.YtkkpghlcmcaoiaaDoorVt
namespace Go.Proofs.YtkkpghlcmcaoiaaDoor
open Go.Vc Go.Gm

theorem own_any2 {w0 w : World} {S : Sp} (hG : SpOk w0 S) (hb : Ext [] w0 w) (z : Int) : Calls Tryd.prog 70 #[.agg S.ca, I6 z] w fun e w' => ∃ bs n cp, e = .returned (.slice bs n cp) ∧ OwnV w' 3 1 (.slice bs n cp) n (ivs (ownL S.ps z 0)) ∧ (∀ x ∈ ob (.slice bs n cp), w.heap.size ≤ x) ∧ Ext [] w w' := by
 refine (own_any hG hb z).mono ?_
 rintro e w' ⟨bs, n, cp, h1, h2, h3⟩
 exact ⟨bs, n, cp, h1, h2.own, h2.new, h3⟩
/-- the place that is picked, and the production there -/
def owk (S : Sp) (z : Int) (k : Nat) : Nat := (ownL S.ps z 0).getD k 0
def owp (S : Sp) (z : Int) (k : Nat) : Pd := (S.ps[owk S z k]?).getD ⟨0, none, 0, []⟩
theorem owk_at {S : Sp} {z : Int} {k : Nat} (h : k < (ownL S.ps z 0).length) : (ownL S.ps z 0)[k]? = some (owk S z k) := by
 unfold owk
 rw [List.getD_eq_getElem?_getD, List.getElem?_eq_getElem h]; rfl
theorem owp_at {S : Sp} {z : Int} {k : Nat} (h : k < (ownL S.ps z 0).length) : S.ps[owk S z k]? = some (owp S z k) ∧ (owp S z k).l = z := by
 obtain ⟨j, p, h1, h2, h3⟩ := ownL_mem (List.mem_of_getElem? (owk_at h))
 rw [Nat.zero_add] at h1
 unfold owp
 rw [h1, h2]
 exact ⟨rfl, h3⟩
theorem owk_lt {S : Sp} {z : Int} {k : Nat} (h : k < (ownL S.ps z 0).length) : owk S z k < S.ps.length := (List.getElem?_eq_some_iff.1 (owp_at h).1).1
theorem own_pos {S : Sp} (hok : GOk S) {A : Nat} (hA : A < S.ns.length) : 0 < (ownL S.ps (A : Int) 0).length := by
 cases hok.pr A hA with
 | mk A r hm _ _ =>
  obtain ⟨p, hp, h1, _⟩ := g_of hm
  have := (hok.ix.left p hp).1
  exact ownL_pos hp (by omega)
/-- a way, where it stands -/
structure TripK (S : Sp) (pv : Value) (N b : Nat) (w : World) (aq ust : Nat) (bs : Option Addr) (n cp : Nat) (zs : List Nat) : Prop where
 blk : Blk w b 58 #[S.lv, S.nv, I6 S.st, S.pv, pv, I6 ↑aq, .slice bs n cp, I6 ↑ust]
 row : RowN N w bs n cp zs
def MkR (S : Sp) (pv : Value) (N b : Nat) (r : List Sm) (ust : Nat) (bs : Option Addr) (n cp : Nat) (zs : List Nat) (w : World) (e : Ending) (w' : World) : Prop :=
 (e = .returned (.bool false) ∧ Ext (b :: ob (.slice bs n cp)) w w') ∨
 ∃ a2 u2 bs2 n2 cp2 u, e = .returned (.bool true) ∧ TripK S pv N b w' a2 u2 bs2 n2 cp2 (zs ++ u) ∧ Ext (b :: ob (.slice bs n cp)) w w' ∧ Fresh w.heap.size (ob (.slice bs n cp)) (ob (.slice bs2 n2 cp2)) ∧ a2 ≤ u2 ∧ n2 ≤ u2 ∧ ust < u2 ∧ u2 ≤ 400 ∧ MT S.g S.nl r u
theorem TripK.nw {S : Sp} {pv : Value} {N b : Nat} {w : World} {aq ust : Nat} {bs : Option Addr} {n cp : Nat} {zs : List Nat} (h : TripK S pv N b w aq ust bs n cp zs) (hb : N ≤ b) : ∀ x ∈ b :: ob (.slice bs n cp), N ≤ x := fun x hx => by
 rcases List.mem_cons.1 hx with h1 | h1
 ·rw [h1]; exact hb
 ·exact h.row.new x h1
theorem Fresh.trans' {M M' : Nat} {l l' l2 : List Nat} (h : Fresh M l l') (h' : Fresh M' l' l2) (hM : M ≤ M') : Fresh M l l2 := fun x hx => by
 rcases h' x hx with h1 | h1
 ·exact h x h1
 ·exact .inr (Nat.le_trans hM h1)
theorem Fresh.ext {b M : Nat} {l l' : List Nat} (h : Fresh M l l') : ∀ x ∈ b :: l', x ∈ b :: l ∨ M ≤ x := fun x hx => by
 rcases List.mem_cons.1 hx with h1 | h1
 ·exact .inl (by rw [h1]; exact List.mem_cons_self ..)
 ·rcases h x h1 with h2 | h2
  ·exact .inl (List.mem_cons_of_mem _ h2)
  ·exact .inr h2
theorem Fresh.one {M M0 : Nat} {bs : Option Addr} {n cp n2 ca g : Nat} (h : Fresh M (ob (.slice bs n cp)) [g]) (hM : M0 ≤ M) : Fresh M0 (ob (.slice bs n cp)) (ob (Sl g n2 ca)) := fun x hx => by
 have hx : x = g := by simpa [ob] using hx
 rw [hx]
 rcases h g (by simp) with h1 | h1
 ·exact .inl h1
 ·exact .inr (Nat.le_trans hM h1)

set_option maxHeartbeats 1000000 in
theorem makes_step {w0 w : World} {S : Sp} (hG : SpOk w0 S) (hb : Ext [] w0 w) {pv : Value} {np : Nat} {ts : List Int} (hp : RdV w0 1 pv np (its ts)) (hpm0 : np ≤ 1048576) (hok : GOk S) {b aq ust : Nat} {bs : Option Addr} {n cp : Nat} {zs : List Nat} (hbn : w0.heap.size ≤ b) (hK : TripK S pv w0.heap.size b w aq ust bs n cp zs) (haq : aq ≤ ust) (hnu : n ≤ ust) (hus : ust ≤ 400) {y : Sy} (hy : syOk S y) (ih : ∀ (w : World) (aq u3 : Nat) (bs : Option Addr) (n cp : Nat) (zs : List Nat) (y : Sy), Ext [] w0 w → TripK S pv w0.heap.size b w aq u3 bs n cp zs → aq ≤ u3 → n ≤ u3 → ust < u3 → u3 ≤ 400 → syOk S y → Calls Tryd.prog 28 #[(Pv b), .agg #[I6 y.1, I6 y.2]] w (MkR S pv w0.heap.size b ([sm y]) u3 bs n cp zs w)) :
  Calls Tryd.prog 28 #[(Pv b), .agg #[I6 y.1, I6 y.2]] w fun e w' => (MkR S pv w0.heap.size b ([sm y]) ust bs n cp zs w) e w' := by
 have hnw := hK.nw hbn
 have hlmax := hG.lmax
 have hpmax := hG.pmax
 refine calls_body 91 [(0, (Pv b)), (1, .agg #[I6 y.1, I6 y.2])] Tryd.func28 rfl (by kernel_rfl) (by kernel_rfl) (by kernel_rfl) fun a hS => ?_
 have hE0 : Ext (b :: ob (.slice bs n cp)) w w := Ext.refl _ _
 refine sq fun K1 hK1 => rgn 2 <| eff_box ww (r := 1) (cs := #[I6 y.1, I6 y.2]) (T := 61) (d := (some 3)) hS (by kernel_rfl) fun a w2 hw3 hS => ?_
 have hn4 : b ≠ w.heap.size := Nat.ne_of_lt hK.blk.lt
 have hB6 := Blk.at' hw3 (hK.blk.alloc _)
 have hB7 := OwnV.at' hw3 (hK.row.own.alloc _)
 have hB8 : Blk w2 (w.heap.size) 61 #[I6 y.1, I6 y.2] := by rw [hw3]; exact Blk.new _ _ _
 have hs9 : w.heap.size ≤ w.heap.size := hE0.size
 have hE10 : Ext (b :: ob (.slice bs n cp)) w w2 := by rw [hw3]; exact hE0.alloc _
 refine sd ww [.p] [] [(4, .bool false)] [] 2 0 hS .nil fun a hS => seg_end <| hK1 _ _ <| sq fun K11 hK11 => rgn 8 <| sd ww [.p, .p, .p, .ld (I6 ↑ust), .as (I6 ((ust + 1 : Nat) : Int)), .p, .p] [w2.cell? ⟨b, 7, none⟩ = some (I6 ↑ust), Value.int .i64 (IntKind.i64.wrap (↑ust + 1)) = I6 ((ust + 1 : Nat) : Int)] [(12, I6 ((ust + 1 : Nat) : Int)), (14, (Po b 7))] [] 7 1 hS (.cons (hB6.cell 7 rfl) (.cons ((by rw [show (↑ust + 1 : Int) = ((ust + 1 : Nat) : Int) from by omega]; exact as_i64 (by omega))) .nil)) fun a hS => eff_store ww (r := 0) (b := b) (off := 7) (vs := [I6 ((ust + 1 : Nat) : Int)]) hS (by kernel_rfl) hB6 (by simp) fun a w12 hw13 hS => ?_
 have hB14 : Blk w12 b 58 (#[S.lv, S.nv, I6 S.st, S.pv, pv, I6 ↑aq, .slice bs n cp, I6 ((ust + 1 : Nat) : Int)]) := by rw [hw13]; exact hB6.upd _ _
 have hB15 := OwnV.at' hw13 (hB7.updNe (hK.row.own.ne hK.blk (by decide)) _ _)
 have hB16 := Blk.at' hw13 (hB8.updNe hn4 _ _)
 have hE17 : Ext (b :: ob (.slice bs n cp)) w w12 := by rw [hw13]; exact hE10.updIn (.inl (by simp)) _ _
 refine seg_end <| hK11 _ _ <| sq fun K18 hK18 => wpIn_block <| sq fun K19 hK19 => ?_
 rcases (show (400 < ust + 1) ∨ (ust + 1 ≤ 400) from by omega) with h0 | h0
 ·
  refine rgn 6 <| sd ww [.p, .p, .p, .ld (I6 ((ust + 1 : Nat) : Int)), .as (.bool true), .p] [w12.cell? ⟨b, 7, none⟩ = some (I6 ((ust + 1 : Nat) : Int)), Value.bool (decide ((((ust + 1 : Nat) : Int) : Int) > 400)) = .bool true] [(15, .bool true)] [] 6 0 hS (.cons (hB14.cell 7 rfl) (.cons (as_t (by omega)) .nil)) fun a hS => seg_end <| hK19 _ _ ?_
  refine cond_t hS rfl ?_
  refine sq fun K20 hK20 => rgn 1 <| sd ww [.p] [] [] [] 1 0 hS .nil fun a hS => seg_end <| hK20 _ _ <| wpIn_ret <| inBlock_ret <| then_ret ?_
  refine ret1 hS Tryd.results28 rfl ?_
  exact .inl ⟨rfl, hE17⟩
 ·
  refine rgn 6 <| sd ww [.p, .p, .p, .ld (I6 ((ust + 1 : Nat) : Int)), .as (.bool false), .p] [w12.cell? ⟨b, 7, none⟩ = some (I6 ((ust + 1 : Nat) : Int)), Value.bool (decide ((((ust + 1 : Nat) : Int) : Int) > 400)) = .bool false] [(15, .bool false)] [] 6 0 hS (.cons (hB14.cell 7 rfl) (.cons (as_f (by omega)) .nil)) fun a hS => seg_end <| hK19 _ _ ?_
  refine cond_f hS rfl ?_
  refine sq fun K21 hK21 => ?_
  rcases (show (y.1 = 1 ∧ 0 ≤ y.2) ∨ (y.1 = 2) ∨ (y.1 = 3 ∧ 0 ≤ y.2 ∧ y.2 < S.ns.length) from by
   rcases hy with h | h | h
   ·exact .inl ⟨h.1, h.2.1⟩
   ·exact .inr (.inl h.1)
   ·exact .inr (.inr h)) with ⟨h1, h2⟩ | h1 | ⟨h1, h2, h3⟩
  ·
   obtain ⟨k, hyk⟩ : ∃ k : Nat, y.2 = k := ⟨y.2.toNat, by omega⟩
   have hsy : sm y = .t k := by unfold sm; rw [if_neg (by omega), if_pos h1, hyk]; rfl
   refine rgn 4 <| sd ww [.p, .ld (I6 y.1), .as (.bool true), .p] [w12.cell? ⟨w.heap.size, 0, none⟩ = some (I6 y.1), Value.bool (((y.1 : Int) == 1)) = .bool true] [(21, .bool true)] [] 4 0 hS (.cons (hB16.cell 0 rfl) (.cons (as_eq_t (by omega)) .nil)) fun a hS => seg_end <| hK21 _ _ ?_
   refine cond_t hS rfl ?_
   refine sq fun K22 hK22 => ?_
   obtain ⟨ga23, ca23, wa23, hra23, hOa23, hEa23, hFa23⟩ := append_any (P := Tryd.prog) (w := (w12.drew).alloc (.cells #[I6 y.2] 3)) (t := 51) (ty := 51) (e := 3) (size := 1) (bytes := 8) (n := n) (b := w12.heap.size) (off := 0) (k := 1) (c := 1) (z := #[I6 0]) (v := Value.slice bs n cp) (xs := (ivs zs)) (news := [I6 y.2]) (by kernel_rfl) (by kernel_rfl) rfl (by decide) ((hB15.drew).alloc _ : OwnV ((w12.drew).alloc (.cells #[I6 y.2] 3)) 3 1 (.slice bs n cp) n (ivs zs)) (by simp) (fun j u hu => by rw [Nat.zero_add]; exact (Blk.new' _ _ _ (by first | rfl | simp [upd_size]) : Blk ((w12.drew).alloc (.cells #[I6 y.2] 3)) w12.heap.size 3 (#[I6 y.2])).cell j (by simpa using hu)) rfl (by omega) (by simp only [maxLen]; omega) (by omega)
   refine region_fn2 ww [.q .p, .q .p, .q .p, .q .p, .q (.ld (.slice bs n cp)), .q .p, .q (.ld (I6 y.2)), .e, .e, .q .p, .q .p, .e] [0, 0, 0, 0, 0, 0, 0, 0, 1, 2, 2, 2] [2, 1, 1, 1, 1, 0, 0, 0, 1, 2, 2, 2] [0, 0, 2, 6, 14, 0, 32, 96, 254, 511, 1023, 2047] [7, 8, 11] 3 ([(0, (Pv b)), (1, .agg #[I6 y.1, I6 y.2]), (3, (Pv w.heap.size)), (4, .bool false), (15, .bool false), (21, .bool true), (25, (Pv b)), (26, (Pv b)), (27, (Pv b)), (28, (Po b 6)), (29, .slice bs n cp), (30, (Po w.heap.size 1)), (31, I6 y.2), (32, Sl w12.heap.size 1 1), (33, Sl ga23 (n + 1) ca23), (34, (Pv b)), (35, (Po b 6))]) [w12.drew, (w12.drew).alloc (.cells #[I6 y.2] 3), wa23, upd (wa23) (b) 58 #[S.lv, S.nv, I6 S.st, S.pv, pv, I6 ↑aq, Sl ga23 (n + 1) ca23, I6 ((ust + 1 : Nat) : Int)]] w12.drew (fun w' => [(4, [w'.cell? ⟨b, 6, none⟩ = some (.slice bs n cp)]), (6, [w'.cell? ⟨w.heap.size, 1, none⟩ = some (I6 y.2)])]) [0, 1, 3, 4, 15, 21] [] hS (by kernel_rfl) (by kernel_rfl) (by kernel_rfl) (by kernel_rfl) (fun _ => by kernel_rfl) (by kernel_rfl) (by kernel_rfl) (by kernel_rfl) ?_ ?_ ?_
   ·intro e w' hw
    refine (.cons ?_ (.cons ?_ .nil))
    ·intro h1 h2
     replace h1 : 0 ≤ e := h1
     replace h2 : e ≤ 1 := h2
     have he : e = 0 ∨ e = 1 := by omega
     rcases he with rfl | rfl
     ·obtain rfl : w' = w12.drew := hw.trans (by kernel_rfl)
      exact (.cons ((hB14.drew : Blk w12.drew b 58 (#[S.lv, S.nv, I6 S.st, S.pv, pv, I6 ↑aq, .slice bs n cp, I6 ((ust + 1 : Nat) : Int)])).cell 6 rfl) .nil)
     ·obtain rfl : w' = (w12.drew).alloc (.cells #[I6 y.2] 3) := hw.trans (by kernel_rfl)
      exact (.cons (((hB14.drew).alloc _ : Blk ((w12.drew).alloc (.cells #[I6 y.2] 3)) b 58 (#[S.lv, S.nv, I6 S.st, S.pv, pv, I6 ↑aq, .slice bs n cp, I6 ((ust + 1 : Nat) : Int)])).cell 6 rfl) .nil)
    ·intro h1 h2
     obtain rfl : e = 0 := Nat.le_antisymm h2 h1
     obtain rfl : w' = w12.drew := hw.trans (by kernel_rfl)
     exact (.cons ((hB16.drew : Blk w12.drew w.heap.size 61 (#[I6 y.1, I6 y.2])).cell 1 rfl) .nil)
   ·refine (.cons ?eq24_7 (.cons ?eq24_8 (.cons ?eq24_11 .nil)))
    ·refine eff_at (w12.drew) ((w12.drew).alloc (.cells #[I6 y.2] 3)) (by kernel_rfl) (by kernel_rfl) ?_
     exact upon_new (nb := w12.heap.size) (cs := #[I6 y.2]) (T := 3) (v := Value.slice (some ⟨w12.heap.size, 0, none⟩) 1 1) (d := (some 32)) (by kernel_rfl) (by first | rfl | simp [upd_size]) ⟨by kernel_rfl, by kernel_rfl⟩
    ·refine eff_at ((w12.drew).alloc (.cells #[I6 y.2] 3)) (wa23) (by kernel_rfl) (by kernel_rfl) ?_
     exact upon_run (s := vS (Builtin.append_ #[51, 51] 51 #[Value.slice bs n cp, Value.slice (some ⟨w12.heap.size, 0, none⟩) 1 1])) (d := (some 33)) (v := Value.slice (some ⟨ga23, 0, none⟩) (n + 1) ca23) (by kernel_rfl) (vS_run hra23) ⟨by kernel_rfl, by kernel_rfl⟩
    ·refine eff_at (wa23) (upd (wa23) (b) 58 #[S.lv, S.nv, I6 S.st, S.pv, pv, I6 ↑aq, Sl ga23 (n + 1) ca23, I6 ((ust + 1 : Nat) : Int)]) (by kernel_rfl) (by kernel_rfl) ?_
     exact upon_store (b := b) (off := 6) (vs := [Sl ga23 (n + 1) ca23]) (by kernel_rfl) ((((hB14.drew).alloc _ : Blk ((w12.drew).alloc (.cells #[I6 y.2] 3)) b 58 (#[S.lv, S.nv, I6 S.st, S.pv, pv, I6 ↑aq, .slice bs n cp, I6 ((ust + 1 : Nat) : Int)]))).ext hEa23 (OwnV.notin ((hB15.drew).alloc _ : OwnV ((w12.drew).alloc (.cells #[I6 y.2] 3)) 3 1 (.slice bs n cp) n (ivs zs)) ((hB14.drew).alloc _ : Blk ((w12.drew).alloc (.cells #[I6 y.2] 3)) b 58 (#[S.lv, S.nv, I6 S.st, S.pv, pv, I6 ↑aq, .slice bs n cp, I6 ((ust + 1 : Nat) : Int)])) (by decide)) : Blk wa23 b 58 (#[S.lv, S.nv, I6 S.st, S.pv, pv, I6 ↑aq, .slice bs n cp, I6 ((ust + 1 : Nat) : Int)])) (by simp) ⟨by kernel_rfl, by kernel_rfl⟩
   rintro a w25 hS hw26
   replace hw26 : w25 = upd (wa23) (b) 58 #[S.lv, S.nv, I6 S.st, S.pv, pv, I6 ↑aq, Sl ga23 (n + 1) ca23, I6 ((ust + 1 : Nat) : Int)] := hw26.trans (by kernel_rfl)
   have hB27 : Blk w25 b 58 (#[S.lv, S.nv, I6 S.st, S.pv, pv, I6 ↑aq, Sl ga23 (n + 1) ca23, I6 ((ust + 1 : Nat) : Int)]) := by rw [hw26]; exact ((((hB14.drew).alloc _ : Blk ((w12.drew).alloc (.cells #[I6 y.2] 3)) b 58 (#[S.lv, S.nv, I6 S.st, S.pv, pv, I6 ↑aq, .slice bs n cp, I6 ((ust + 1 : Nat) : Int)]))).ext hEa23 (OwnV.notin ((hB15.drew).alloc _ : OwnV ((w12.drew).alloc (.cells #[I6 y.2] 3)) 3 1 (.slice bs n cp) n (ivs zs)) ((hB14.drew).alloc _ : Blk ((w12.drew).alloc (.cells #[I6 y.2] 3)) b 58 (#[S.lv, S.nv, I6 S.st, S.pv, pv, I6 ↑aq, .slice bs n cp, I6 ((ust + 1 : Nat) : Int)])) (by decide))).upd _ _
   have hB29 : OwnR w25 3 1 ga23 ca23 (n + 1) ((ivs zs) ++ [I6 y.2]) := by rw [hw26]; exact (hOa23).updNe ((OwnR.ne_type hOa23 ((((hB14.drew).alloc _ : Blk ((w12.drew).alloc (.cells #[I6 y.2] 3)) b 58 (#[S.lv, S.nv, I6 S.st, S.pv, pv, I6 ↑aq, .slice bs n cp, I6 ((ust + 1 : Nat) : Int)]))).ext hEa23 (OwnV.notin ((hB15.drew).alloc _ : OwnV ((w12.drew).alloc (.cells #[I6 y.2] 3)) 3 1 (.slice bs n cp) n (ivs zs)) ((hB14.drew).alloc _ : Blk ((w12.drew).alloc (.cells #[I6 y.2] 3)) b 58 (#[S.lv, S.nv, I6 S.st, S.pv, pv, I6 ↑aq, .slice bs n cp, I6 ((ust + 1 : Nat) : Int)])) (by decide))) (by decide)).symm) _ _
   have hE30 : Ext (b :: ob (.slice bs n cp)) w w25 := by rw [hw26]; exact (((hE17.drew).alloc _).trans hEa23 (fun x hx => .inl (List.mem_cons_of_mem _ hx))).updIn (.inl (by simp)) _ _
   replace hS := hS.kp [(0, (Pv b)), (1, .agg #[I6 y.1, I6 y.2]), (3, (Pv w.heap.size)), (4, .bool false), (15, .bool false), (21, .bool true)]
   refine hK22 _ _ <| sq fun K31 hK31 => rgn 1 <| sd ww [.p] [] [(4, .bool true)] [] 1 0 hS .nil fun a hS => seg_end <| hK31 _ _ <| wpIn_ret <| inBlock_ret <| then_ret ?_
   have hRn : RowN w0.heap.size w25 (some ⟨ga23, 0, none⟩) (n + 1) ca23 (zs ++ [k]) := hK.row.grow (by rw [← hyk]; exact hB29) ((hb.trans hE17 (fun x hx => .inr (hnw x hx))).trans0 (((Ext.refl [] _).drew).alloc _)).size hFa23
   refine ret1 hS Tryd.results28 rfl ?_
   exact .inr ⟨aq, ust + 1, _, _, _, [k], rfl, ⟨hB27, hRn⟩, hE30, Fresh.one hFa23 (hE17.trans0 (((Ext.refl [] _).drew).alloc _)).size, by omega, by omega, by omega, by omega, by rw [hsy]; exact .t .nil⟩
  ·
   have hsy : sm y = .e := by unfold sm; rw [if_neg (by omega), if_neg (by omega)]
   refine rgn 4 <| sd ww [.p, .ld (I6 y.1), .as (.bool false), .p] [w12.cell? ⟨w.heap.size, 0, none⟩ = some (I6 y.1), Value.bool (((y.1 : Int) == 1)) = .bool false] [(21, .bool false)] [] 4 0 hS (.cons (hB16.cell 0 rfl) (.cons (as_eq_f (by omega)) .nil)) fun a hS => seg_end <| hK21 _ _ ?_
   refine cond_f hS rfl ?_
   refine sq fun K32 hK32 => rgn 4 <| sd ww [.p, .ld (I6 y.1), .as (.bool true), .p] [w12.cell? ⟨w.heap.size, 0, none⟩ = some (I6 y.1), Value.bool (((y.1 : Int) == 2)) = .bool true] [(36, .bool true)] [] 4 0 hS (.cons (hB16.cell 0 rfl) (.cons (as_eq_t (by omega)) .nil)) fun a hS => seg_end <| hK32 _ _ ?_
   refine cond_t hS rfl ?_
   refine sq fun K33 hK33 => ?_
   obtain ⟨ga34, ca34, wa34, hra34, hOa34, hEa34, hFa34⟩ := append_any (P := Tryd.prog) (w := (w12.drew).alloc (.cells #[I6 ↑S.lx.length] 3)) (t := 51) (ty := 51) (e := 3) (size := 1) (bytes := 8) (n := n) (b := w12.heap.size) (off := 0) (k := 1) (c := 1) (z := #[I6 0]) (v := Value.slice bs n cp) (xs := (ivs zs)) (news := [I6 ↑S.lx.length]) (by kernel_rfl) (by kernel_rfl) rfl (by decide) ((hB15.drew).alloc _ : OwnV ((w12.drew).alloc (.cells #[I6 ↑S.lx.length] 3)) 3 1 (.slice bs n cp) n (ivs zs)) (by simp) (fun j u hu => by rw [Nat.zero_add]; exact (Blk.new' _ _ _ (by first | rfl | simp [upd_size]) : Blk ((w12.drew).alloc (.cells #[I6 ↑S.lx.length] 3)) w12.heap.size 3 (#[I6 ↑S.lx.length])).cell j (by simpa using hu)) rfl (by omega) (by simp only [maxLen]; omega) (by omega)
   refine region_fn2 ww [.q .p, .q .p, .q .p, .q .p, .q (.ld (.slice bs n cp)), .q .p, .q .p, .q .p, .q .p, .q (.ld (S.lv)), .q (.run (I6 ↑S.lx.length)), .e, .e, .q .p, .q .p, .e] [0, 0, 0, 0, 0, 0, 0, 0, 0, 0, 0, 0, 1, 2, 2, 2] [2, 1, 1, 1, 1, 0, 0, 0, 0, 0, 0, 0, 1, 2, 2, 2] [0, 0, 2, 6, 14, 0, 32, 96, 224, 480, 992, 2016, 4094, 8191, 16383, 32767] [11, 12, 15] 3 ([(0, (Pv b)), (1, .agg #[I6 y.1, I6 y.2]), (3, (Pv w.heap.size)), (4, .bool false), (15, .bool false), (21, .bool false), (36, .bool true), (40, (Pv b)), (41, (Pv b)), (42, (Pv b)), (43, (Po b 6)), (44, .slice bs n cp), (45, (Pv b)), (46, (Pv b)), (47, (Pv b)), (48, (Pv b)), (49, S.lv), (50, I6 ↑S.lx.length), (51, Sl w12.heap.size 1 1), (52, Sl ga34 (n + 1) ca34), (53, (Pv b)), (54, (Po b 6))]) [w12.drew, (w12.drew).alloc (.cells #[I6 ↑S.lx.length] 3), wa34, upd (wa34) (b) 58 #[S.lv, S.nv, I6 S.st, S.pv, pv, I6 ↑aq, Sl ga34 (n + 1) ca34, I6 ((ust + 1 : Nat) : Int)]] w12.drew (fun w' => [(4, [w'.cell? ⟨b, 6, none⟩ = some (.slice bs n cp)]), (9, [w'.cell? ⟨b, 0, none⟩ = some (S.lv)]), (10, [Ru Tryd.prog (vS (Builtin.len_ #[22] 3 #[S.lv])) (I6 ↑S.lx.length) w'])]) [0, 1, 3, 4, 15, 21, 36] [] hS (by kernel_rfl) (by kernel_rfl) (by kernel_rfl) (by kernel_rfl) (fun _ => by kernel_rfl) (by kernel_rfl) (by kernel_rfl) (by kernel_rfl) ?_ ?_ ?_
   ·intro e w' hw
    refine (.cons ?_ (.cons ?_ (.cons ?_ .nil)))
    ·intro h1 h2
     replace h1 : 0 ≤ e := h1
     replace h2 : e ≤ 1 := h2
     have he : e = 0 ∨ e = 1 := by omega
     rcases he with rfl | rfl
     ·obtain rfl : w' = w12.drew := hw.trans (by kernel_rfl)
      exact (.cons ((hB14.drew : Blk w12.drew b 58 (#[S.lv, S.nv, I6 S.st, S.pv, pv, I6 ↑aq, .slice bs n cp, I6 ((ust + 1 : Nat) : Int)])).cell 6 rfl) .nil)
     ·obtain rfl : w' = (w12.drew).alloc (.cells #[I6 ↑S.lx.length] 3) := hw.trans (by kernel_rfl)
      exact (.cons (((hB14.drew).alloc _ : Blk ((w12.drew).alloc (.cells #[I6 ↑S.lx.length] 3)) b 58 (#[S.lv, S.nv, I6 S.st, S.pv, pv, I6 ↑aq, .slice bs n cp, I6 ((ust + 1 : Nat) : Int)])).cell 6 rfl) .nil)
    ·intro h1 h2
     obtain rfl : e = 0 := Nat.le_antisymm h2 h1
     obtain rfl : w' = w12.drew := hw.trans (by kernel_rfl)
     exact (.cons ((hB14.drew : Blk w12.drew b 58 (#[S.lv, S.nv, I6 S.st, S.pv, pv, I6 ↑aq, .slice bs n cp, I6 ((ust + 1 : Nat) : Int)])).cell 0 rfl) .nil)
    ·exact fun _ _ => (.cons (run_len_rd (e := 100) hG.lex (by kernel_rfl)) .nil)
   ·refine (.cons ?eq35_11 (.cons ?eq35_12 (.cons ?eq35_15 .nil)))
    ·refine eff_at (w12.drew) ((w12.drew).alloc (.cells #[I6 ↑S.lx.length] 3)) (by kernel_rfl) (by kernel_rfl) ?_
     exact upon_new (nb := w12.heap.size) (cs := #[I6 ↑S.lx.length]) (T := 3) (v := Value.slice (some ⟨w12.heap.size, 0, none⟩) 1 1) (d := (some 51)) (by kernel_rfl) (by first | rfl | simp [upd_size]) ⟨by kernel_rfl, by kernel_rfl⟩
    ·refine eff_at ((w12.drew).alloc (.cells #[I6 ↑S.lx.length] 3)) (wa34) (by kernel_rfl) (by kernel_rfl) ?_
     exact upon_run (s := vS (Builtin.append_ #[51, 51] 51 #[Value.slice bs n cp, Value.slice (some ⟨w12.heap.size, 0, none⟩) 1 1])) (d := (some 52)) (v := Value.slice (some ⟨ga34, 0, none⟩) (n + 1) ca34) (by kernel_rfl) (vS_run hra34) ⟨by kernel_rfl, by kernel_rfl⟩
    ·refine eff_at (wa34) (upd (wa34) (b) 58 #[S.lv, S.nv, I6 S.st, S.pv, pv, I6 ↑aq, Sl ga34 (n + 1) ca34, I6 ((ust + 1 : Nat) : Int)]) (by kernel_rfl) (by kernel_rfl) ?_
     exact upon_store (b := b) (off := 6) (vs := [Sl ga34 (n + 1) ca34]) (by kernel_rfl) ((((hB14.drew).alloc _ : Blk ((w12.drew).alloc (.cells #[I6 ↑S.lx.length] 3)) b 58 (#[S.lv, S.nv, I6 S.st, S.pv, pv, I6 ↑aq, .slice bs n cp, I6 ((ust + 1 : Nat) : Int)]))).ext hEa34 (OwnV.notin ((hB15.drew).alloc _ : OwnV ((w12.drew).alloc (.cells #[I6 ↑S.lx.length] 3)) 3 1 (.slice bs n cp) n (ivs zs)) ((hB14.drew).alloc _ : Blk ((w12.drew).alloc (.cells #[I6 ↑S.lx.length] 3)) b 58 (#[S.lv, S.nv, I6 S.st, S.pv, pv, I6 ↑aq, .slice bs n cp, I6 ((ust + 1 : Nat) : Int)])) (by decide)) : Blk wa34 b 58 (#[S.lv, S.nv, I6 S.st, S.pv, pv, I6 ↑aq, .slice bs n cp, I6 ((ust + 1 : Nat) : Int)])) (by simp) ⟨by kernel_rfl, by kernel_rfl⟩
   rintro a w36 hS hw37
   replace hw37 : w36 = upd (wa34) (b) 58 #[S.lv, S.nv, I6 S.st, S.pv, pv, I6 ↑aq, Sl ga34 (n + 1) ca34, I6 ((ust + 1 : Nat) : Int)] := hw37.trans (by kernel_rfl)
   have hB38 : Blk w36 b 58 (#[S.lv, S.nv, I6 S.st, S.pv, pv, I6 ↑aq, Sl ga34 (n + 1) ca34, I6 ((ust + 1 : Nat) : Int)]) := by rw [hw37]; exact ((((hB14.drew).alloc _ : Blk ((w12.drew).alloc (.cells #[I6 ↑S.lx.length] 3)) b 58 (#[S.lv, S.nv, I6 S.st, S.pv, pv, I6 ↑aq, .slice bs n cp, I6 ((ust + 1 : Nat) : Int)]))).ext hEa34 (OwnV.notin ((hB15.drew).alloc _ : OwnV ((w12.drew).alloc (.cells #[I6 ↑S.lx.length] 3)) 3 1 (.slice bs n cp) n (ivs zs)) ((hB14.drew).alloc _ : Blk ((w12.drew).alloc (.cells #[I6 ↑S.lx.length] 3)) b 58 (#[S.lv, S.nv, I6 S.st, S.pv, pv, I6 ↑aq, .slice bs n cp, I6 ((ust + 1 : Nat) : Int)])) (by decide))).upd _ _
   have hB40 : OwnR w36 3 1 ga34 ca34 (n + 1) ((ivs zs) ++ [I6 ↑S.lx.length]) := by rw [hw37]; exact (hOa34).updNe ((OwnR.ne_type hOa34 ((((hB14.drew).alloc _ : Blk ((w12.drew).alloc (.cells #[I6 ↑S.lx.length] 3)) b 58 (#[S.lv, S.nv, I6 S.st, S.pv, pv, I6 ↑aq, .slice bs n cp, I6 ((ust + 1 : Nat) : Int)]))).ext hEa34 (OwnV.notin ((hB15.drew).alloc _ : OwnV ((w12.drew).alloc (.cells #[I6 ↑S.lx.length] 3)) 3 1 (.slice bs n cp) n (ivs zs)) ((hB14.drew).alloc _ : Blk ((w12.drew).alloc (.cells #[I6 ↑S.lx.length] 3)) b 58 (#[S.lv, S.nv, I6 S.st, S.pv, pv, I6 ↑aq, .slice bs n cp, I6 ((ust + 1 : Nat) : Int)])) (by decide))) (by decide)).symm) _ _
   have hE41 : Ext (b :: ob (.slice bs n cp)) w w36 := by rw [hw37]; exact (((hE17.drew).alloc _).trans hEa34 (fun x hx => .inl (List.mem_cons_of_mem _ hx))).updIn (.inl (by simp)) _ _
   replace hS := hS.kp [(0, (Pv b)), (1, .agg #[I6 y.1, I6 y.2]), (3, (Pv w.heap.size)), (4, .bool false), (15, .bool false), (21, .bool false), (36, .bool true)]
   refine hK33 _ _ <| sq fun K42 hK42 => rgn 1 <| sd ww [.p] [] [(4, .bool true)] [] 1 0 hS .nil fun a hS => seg_end <| hK42 _ _ <| wpIn_ret <| inBlock_ret <| then_ret ?_
   have hRn : RowN w0.heap.size w36 (some ⟨ga34, 0, none⟩) (n + 1) ca34 (zs ++ [S.lx.length]) := hK.row.grow hB40 ((hb.trans hE17 (fun x hx => .inr (hnw x hx))).trans0 (((Ext.refl [] _).drew).alloc _)).size hFa34
   refine ret1 hS Tryd.results28 rfl ?_
   exact .inr ⟨aq, ust + 1, _, _, _, [S.lx.length], rfl, ⟨hB38, hRn⟩, hE41, Fresh.one hFa34 (hE17.trans0 (((Ext.refl [] _).drew).alloc _)).size, by omega, by omega, by omega, by omega, by rw [hsy]; exact .e .nil⟩
  ·
   obtain ⟨A, hyA⟩ : ∃ A : Nat, y.2 = A := ⟨y.2.toNat, by omega⟩
   have hA : A < S.ns.length := by omega
   have hsy : sm y = .m A := by rw [sm_name h1, hyA]; rfl
   have hop := own_pos hok hA
   have hol := ownL_len S.ps (A : Int) 0
   rw [← hyA] at hop hol
   refine rgn 4 <| sd ww [.p, .ld (I6 y.1), .as (.bool false), .p] [w12.cell? ⟨w.heap.size, 0, none⟩ = some (I6 y.1), Value.bool (((y.1 : Int) == 1)) = .bool false] [(21, .bool false)] [] 4 0 hS (.cons (hB16.cell 0 rfl) (.cons (as_eq_f (by omega)) .nil)) fun a hS => seg_end <| hK21 _ _ ?_
   refine cond_f hS rfl ?_
   refine sq fun K43 hK43 => rgn 4 <| sd ww [.p, .ld (I6 y.1), .as (.bool false), .p] [w12.cell? ⟨w.heap.size, 0, none⟩ = some (I6 y.1), Value.bool (((y.1 : Int) == 2)) = .bool false] [(36, .bool false)] [] 4 0 hS (.cons (hB16.cell 0 rfl) (.cons (as_eq_f (by omega)) .nil)) fun a hS => seg_end <| hK43 _ _ ?_
   refine cond_f hS rfl ?_
   refine wpIn_skip <| inBlock_normal <| hK18 _ _ <| sq fun K44 hK44 => ?_
   refine region_gh2 (G := (Option Addr) × Nat × Nat × World) ww [.q .p, .q .p, .q .p, .q (.lds [S.lv, S.nv, I6 S.st, S.pv]), .q .p, .q (.ld (I6 y.2)), .e, .q .p] [0, 0, 0, 0, 0, 0, 0, 1] [0, 0, 0, 0, 0, 0, 0, 1] [0, 1, 3, 7, 0, 16, 63, 127] [6] [(6, 0)] 1 (fun ⟨b445, n445, c445, wc45⟩ => ([(0, (Pv b)), (1, .agg #[I6 y.1, I6 y.2]), (3, (Pv w.heap.size)), (4, .bool false), (15, .bool false), (21, .bool false), (36, .bool false), (55, (Pv b)), (56, (Pv b)), (57, (Pv b)), (58, .agg S.ca), (59, (Po w.heap.size 1)), (60, I6 y.2), (61, .slice b445 n445 c445), (5, .slice b445 n445 c445)] : Fm)) (fun ⟨b445, n445, c445, wc45⟩ => [w12.drew, wc45]) (w12.drew) (fun e ⟨b445, n445, c445, wc45⟩ => hAt [True, (OwnV wc45 3 1 (.slice b445 n445 c445) n445 (ivs (ownL S.ps y.2 0))) ∧ (∀ x ∈ ob (.slice b445 n445 c445), (w12.drew).heap.size ≤ x) ∧ (Ext [] w12.drew wc45) ∧ True] e) (fun ⟨b445, n445, c445, wc45⟩ w' => [(3, [w'.cell? ⟨b, 0, none⟩ = some (S.lv), w'.cell? ⟨b, 1, none⟩ = some (S.nv), w'.cell? ⟨b, 2, none⟩ = some (I6 S.st), w'.cell? ⟨b, 3, none⟩ = some (S.pv)]), (5, [w'.cell? ⟨w.heap.size, 1, none⟩ = some (I6 y.2)])]) (none, 0, 0, w12.drew) [0, 1, 3, 4, 15, 21, 36] [] hS (by kernel_rfl) (by kernel_rfl) (by kernel_rfl) (by kernel_rfl) (fun ⟨b445, n445, c445, wc45⟩ _ => by kernel_rfl) (by kernel_rfl) (by kernel_rfl) (by kernel_rfl) trivial ?_ (by kernel_rfl) ?_ ?_
   ·rintro e ⟨b445, n445, c445, wc45⟩ w' hw hH
    refine (.cons ?_ (.cons ?_ .nil))
    ·intro h1 h2
     obtain rfl : e = 0 := Nat.le_antisymm h2 h1
     have hwe : w12.drew = w' := (hw.trans (by kernel_rfl)).symm
     subst hwe
     clear hH
     exact (.cons ((hB14.drew : Blk w12.drew b 58 (#[S.lv, S.nv, I6 S.st, S.pv, pv, I6 ↑aq, .slice bs n cp, I6 ((ust + 1 : Nat) : Int)])).cell 0 rfl) (.cons ((hB14.drew : Blk w12.drew b 58 (#[S.lv, S.nv, I6 S.st, S.pv, pv, I6 ↑aq, .slice bs n cp, I6 ((ust + 1 : Nat) : Int)])).cell 1 rfl) (.cons ((hB14.drew : Blk w12.drew b 58 (#[S.lv, S.nv, I6 S.st, S.pv, pv, I6 ↑aq, .slice bs n cp, I6 ((ust + 1 : Nat) : Int)])).cell 2 rfl) (.cons ((hB14.drew : Blk w12.drew b 58 (#[S.lv, S.nv, I6 S.st, S.pv, pv, I6 ↑aq, .slice bs n cp, I6 ((ust + 1 : Nat) : Int)])).cell 3 rfl) .nil))))
    ·intro h1 h2
     obtain rfl : e = 0 := Nat.le_antisymm h2 h1
     have hwe : w12.drew = w' := (hw.trans (by kernel_rfl)).symm
     subst hwe
     clear hH
     exact (.cons ((hB16.drew : Blk w12.drew w.heap.size 61 (#[I6 y.1, I6 y.2])).cell 1 rfl) .nil)
   ·refine (.cons ?eq46_6 .nil)
    ·rintro ⟨b445, n445, c445, wc45⟩ hH
     clear hH
     refine eff_gh (w12.drew) (by kernel_rfl) ?_
     refine upon_call (f := 70) (vs := [.agg S.ca, I6 y.2]) (cap := #[]) (d := (some 61)) (by kernel_rfl) Tryd.call70 #[.agg S.ca, I6 y.2] (by kernel_rfl) (own_any2 hG ((hb.trans hE17 (fun x hx => .inr (hnw x hx))).trans0 ((Ext.refl [] _).drew)) y.2) ?_
     rintro _ wc45 ⟨b445, n445, c445, rfl, hO445, hN445, hEc45⟩
     exact ⟨_, rfl, ⟨(b445, n445, c445, wc45), by kernel_rfl, by kernel_rfl, by kernel_rfl, ⟨hO445, hN445, hEc45, trivial⟩⟩⟩
   rintro ⟨b445, n445, c445, wc45⟩ a w47 hS hw48 hH
   obtain ⟨hO445, hN445, hEc45, _⟩ := hH
   replace hw48 : w47 = wc45 := hw48.trans (by kernel_rfl)
   have hB49 := Blk.at' hw48 ((hB14.drew : Blk w12.drew b 58 (#[S.lv, S.nv, I6 S.st, S.pv, pv, I6 ↑aq, .slice bs n cp, I6 ((ust + 1 : Nat) : Int)])).ext hEc45 (by simp))
   have hB50 := OwnV.at' hw48 ((hB15.drew : OwnV w12.drew 3 1 (.slice bs n cp) n (ivs zs)).ext hEc45 (by simp))
   have hB52 : OwnV w47 3 1 (.slice b445 n445 c445) n445 (ivs (ownL S.ps y.2 0)) := by rw [hw48]; exact hO445
   have hE53 : Ext (b :: ob (.slice bs n cp)) w w47 := by rw [hw48]; exact (hE17.drew).trans0 hEc45
   replace hS := hS.kp [(0, (Pv b)), (1, .agg #[I6 y.1, I6 y.2]), (3, (Pv w.heap.size)), (4, .bool false), (15, .bool false), (21, .bool false), (36, .bool false), (5, .slice b445 n445 c445)]
   refine hK44 _ _ <| sq fun K54 hK54 => ?_
   have hn4 : (ownL S.ps y.2 0).length = n445 := by have := hB52.len; rw [ivs_len] at this; omega
   have hn4p : 0 < n445 := by omega
   refine region_setI (G := Nat × Nat × Nat) ww [false, false, false, false, false, false, false, false, false, true, false, false, false, false, true, true] (fun ⟨k11, a11, x11_14⟩ => [.q .p, .q .p, .q .p, .q .p, .q (.ld (S.pv)), .q .p, .q .p, .q .p, .q .p, .e, .q (.run ((Po (bof (.slice b445 n445 c445)) (0 + k11 * 1)))), .q (.ld (I6 (↑(owk S y.2 k11)))), .q (.run ((Po (bof S.pv) (oof S.pv + (owk S y.2 k11) * 2)))), .q (.lds [I6 ((owp S y.2 k11).l), (owp S y.2 k11).rv]), .e, .e]) [0, 1, 3, 7, 15, 0, 0, 0, 128, 448, 992, 2016, 4095, 8191, 0, 32767] [9, 14, 15] (fun ⟨k11, a11, x11_14⟩ => ([(0, (Pv b)), (1, .agg #[I6 y.1, I6 y.2]), (3, (Pv w.heap.size)), (4, .bool false), (15, .bool false), (21, .bool false), (36, .bool false), (5, .slice b445 n445 c445), (62, (Pv b)), (63, (Pv b)), (64, (Pv b)), (65, (Po b 3)), (66, S.pv), (67, .slice b445 n445 c445), (68, (Pv b)), (69, .slice b445 n445 c445), (70, I6 ↑n445), (71, I6 ↑k11), (72, (Po (bof (.slice b445 n445 c445)) (0 + k11 * 1))), (73, I6 (↑(owk S y.2 k11))), (74, (Po (bof S.pv) (oof S.pv + (owk S y.2 k11) * 2))), (75, .agg #[I6 ((owp S y.2 k11).l), (owp S y.2 k11).rv]), (6, (Pv x11_14))] : Fm)) (fun D ⟨k11, a11, x11_14⟩ w' => Ext [b] w47 w' ∧ (D 9 = false → Blk w' b 58 (#[S.lv, S.nv, I6 S.st, S.pv, pv, I6 ↑aq, .slice bs n cp, I6 ((ust + 1 : Nat) : Int)])) ∧ (D 9 = true → Blk w' b 58 (#[S.lv, S.nv, I6 S.st, S.pv, pv, I6 ↑a11, .slice bs n cp, I6 ((ust + 1 : Nat) : Int)])) ∧ (k11 < n445) ∧ (a11 ≤ aq + 1) ∧ (D 15 = false → (D 14 = true → (Blk w' x11_14 73 (#[I6 0, .slice none 0 0]) ∧ w47.heap.size ≤ x11_14)) ∧ True) ∧ (D 15 = true → (Blk w' x11_14 73 (#[I6 ((owp S y.2 k11).l), (owp S y.2 k11).rv]) ∧ w47.heap.size ≤ x11_14) ∧ True)) (fun ⟨k11, a11, x11_14⟩ w' => [(4, [w'.cell? ⟨b, 3, none⟩ = some (S.pv)]), (10, [Ru Tryd.prog (vS (Instr.indexAt 51 (.slice b445 n445 c445) (I6 ↑k11))) ((Po (bof (.slice b445 n445 c445)) (0 + k11 * 1))) w']), (11, [w'.cell? ⟨bof (.slice b445 n445 c445), 0 + k11 * 1, none⟩ = some (I6 (↑(owk S y.2 k11)))]), (12, [Ru Tryd.prog (vS (Instr.indexAt 24 (S.pv) (I6 (↑(owk S y.2 k11))))) ((Po (bof S.pv) (oof S.pv + (owk S y.2 k11) * 2))) w']), (13, [w'.cell? ⟨bof S.pv, oof S.pv + (owk S y.2 k11) * 2, none⟩ = some (I6 ((owp S y.2 k11).l)), w'.cell? ⟨bof S.pv, oof S.pv + (owk S y.2 k11) * 2 + 1, none⟩ = some ((owp S y.2 k11).rv)])]) (0, aq, 0) [0, 1, 3, 4, 15, 21, 36, 5] [] hS (by kernel_rfl) (by kernel_rfl) (by kernel_rfl) (by kernel_rfl) (fun ⟨k11, a11, x11_14⟩ _ => by kernel_rfl) (fun ⟨k11, a11, x11_14⟩ => by kernel_rfl) (by kernel_rfl) (by kernel_rfl) ⟨(Ext.refl _ _).drew, fun _ => hB49.drew, fun h => (by cases h), hn4p, Nat.le_succ _, fun _ => ⟨fun h => (by cases h), trivial⟩, fun h => by cases h⟩ ?_ ?_ ?_
   ·rintro D ⟨k11, a11, x11_14⟩ w' ⟨hE, hWo, hWn, hWg0, hWg1, _, _⟩ xq hxq _ _
    refine AllI.mem ?_ xq hxq
    obtain ⟨hu5, hWu⟩ : ∃ (hu5 : Value), Blk w' b 58 (#[S.lv, S.nv, I6 S.st, S.pv, pv, hu5, .slice bs n cp, I6 ((ust + 1 : Nat) : Int)]) := by
     cases hDw : D 9 with
     | false => exact ⟨_, hWo hDw⟩
     | true => exact ⟨_, hWn hDw⟩
    exact (.cons (.cons (hWu.cell 3 rfl) .nil) (.cons (.cons (ix_own (j := k11) ((hB52.ext hE (fun x hx hm => by simp at hm; exact (OwnV.ne hB52 hB49 (by decide)) x hx hm.symm))) (by kernel_rfl) (by kernel_rfl) rfl (by omega)) .nil) (.cons (.cons (OwnV.cellAt ((hB52.ext hE (fun x hx hm => by simp at hm; exact (OwnV.ne hB52 hB49 (by decide)) x hx hm.symm)) : OwnV w' 3 1 (.slice b445 n445 c445) n445 (ivs (ownL S.ps y.2 0))) (0 + k11 * 1) (by rw [Nat.zero_add]; exact ivs_at' (owk_at (by omega)))) .nil) (.cons (.cons (ix_rd (e := 73) (j := (owk S y.2 k11)) hG.prods (by kernel_rfl) (by kernel_rfl) rfl (owk_lt (by omega))) .nil) (.cons (.cons ((hG.prods.ext0 ((hb.trans hE53 (fun x hx => .inr (hnw x hx))).trans hE (fun b hbM => by simp at hbM; rw [hbM]; exact .inr hbn))).cellAt ((owk S y.2 k11) * 2 + 0) (by omega) (pcells_at S.ps (owk S y.2 k11) 0 (owp S y.2 k11) (owp_at (by omega)).1 (by omega))) (.cons ((hG.prods.ext0 ((hb.trans hE53 (fun x hx => .inr (hnw x hx))).trans hE (fun b hbM => by simp at hbM; rw [hbM]; exact .inr hbn))).cellAt ((owk S y.2 k11) * 2 + 1) (by omega) (pcells_at S.ps (owk S y.2 k11) 1 (owp S y.2 k11) (owp_at (by omega)).1 (by omega))) .nil)) .nil)))))
   ·refine (.cons ?_ (.cons ?_ (.cons ?_ .nil)))
    ·rintro D ⟨k11, a11, x11_14⟩ w' ⟨hE, hWo, hWn, hWg0, hWg1, hA, hB⟩ hDi hdp hnd
     have hDf : D 15 = false := hnd 15 (by simp) (by decide)
     obtain ⟨hA14, _⟩ := hA hDf
     have hWb := hWo hDi
     refine upon_call (f := 71) (vs := [(Pv b), I6 ↑n445]) (cap := #[]) (d := (some 71)) (by kernel_rfl) Tryd.call71 #[(Pv b), I6 ↑n445] (by kernel_rfl) (pick_any hG ((hb.trans hE53 (fun x hx => .inr (hnw x hx))).trans hE (fun b hbM => by simp at hbM; rw [hbM]; exact .inr hbn)) hp hpm0 hbn hWb (by omega) (mx := n445) (by omega) (by omega)) ?_
     rintro _ wn ⟨kN, aN, rfl, hkN, haN, hBN, hEn⟩
     refine ⟨_, rfl, (kN, aN, x11_14), by kernel_rfl, by kernel_rfl, hE.trans hEn (by simp), fun h => (by rw [setS_self] at h; cases h), fun _ => hBN, hkN, haN, fun _ => ⟨fun h => ⟨(hA14 h).1.ext hEn (by simpa using (Nat.ne_of_lt (Nat.lt_of_lt_of_le hB49.lt (hA14 h).2)).symm), (hA14 h).2⟩, trivial⟩, fun h => ?_⟩
     rw [show setS D 9 15 = D 15 from rfl, hDf] at h; cases h
    ·rintro D ⟨k11, a11, x11_14⟩ w' ⟨hE, hWo, hWn, hWg0, hWg1, hA, hB⟩ hDi hdp hnd
     have hDf : D 15 = false := hnd 15 (by simp) (by decide)
     obtain ⟨hA14, _⟩ := hA hDf
     have hEn : Ext [] w' (w'.alloc (.cells #[I6 0, .slice none 0 0] 73)) := (Ext.refl _ _).alloc _
     refine upon_box (nb := w'.heap.size) (cs := #[I6 0, .slice none 0 0]) (T := 73) (d := (some 6)) (by kernel_rfl) rfl ⟨(k11, a11, w'.heap.size), by kernel_rfl, by kernel_rfl, hE.trans0 hEn, fun h => (hWo h).ext hEn (by simp), fun h => (hWn h).ext hEn (by simp), hWg0, hWg1, fun _ => ⟨fun _ => ⟨Blk.new _ _ _, hE.size⟩, trivial⟩, fun h => ?_⟩
     rw [show setS D 14 15 = D 15 from rfl, hDf] at h; cases h
    ·rintro D ⟨k11, a11, x11_14⟩ w' ⟨hE, hWo, hWn, hWg0, hWg1, hA, hB⟩ hDi hdp hnd
     obtain ⟨hA14, _⟩ := hA hDi
     obtain ⟨hf14, hs14⟩ := hA14 (hdp 14 (by simp) (by decide))
     refine upon_store (b := x11_14) (off := 0) (vs := [I6 ((owp S y.2 k11).l), (owp S y.2 k11).rv]) (by kernel_rfl) hf14 (by simp) ⟨(k11, a11, x11_14), by kernel_rfl, by kernel_rfl, hE.updIn (.inr hs14) _ _, fun h => (hWo h).updNe (Nat.ne_of_lt (Nat.lt_of_lt_of_le hB49.lt hs14)).symm _ _, fun h => (hWn h).updNe (Nat.ne_of_lt (Nat.lt_of_lt_of_le hB49.lt hs14)).symm _ _, hWg0, hWg1, fun h => ?_, fun _ => ⟨⟨hf14.upd _ _, hs14⟩, trivial⟩⟩
     rw [setS_self] at h; cases h
   rintro D ⟨k11, a11, x11_14⟩ a wz55 hS hall ⟨hEz55, hWo, hWn, hWg0, hWg1, _, hB⟩
   obtain ⟨⟨hz55_14, hy55_14⟩, _⟩ := hB (hall 15 (by simp))
   have hB56 := hWn (hall 9 (by simp))
   have hB57 := hB50.ext hEz55 (fun x hx hm => by simp at hm; exact (hK.row.own.ne hK.blk (by decide)) x hx hm.symm)
   have hw55_14 : w.heap.size ≤ x11_14 := Nat.le_trans hE53.size hy55_14
   have hE60 := hE53.trans hEz55 (fun b hb => by simp at hb; subst hb; exact .inl (by simp))
   replace hS := hS.kp [(0, (Pv b)), (1, .agg #[I6 y.1, I6 y.2]), (3, (Pv w.heap.size)), (4, .bool false), (15, .bool false), (21, .bool false), (36, .bool false), (5, .slice b445 n445 c445), (6, (Pv x11_14))]
   refine hK54 _ _ <| sq fun K61 hK61 => sq fun K62 hK62 => ?_
   obtain ⟨p, hpe⟩ : ∃ p, owp S y.2 k11 = p := ⟨_, rfl⟩
   have hpa := owp_at (S := S) (z := y.2) (k := k11) (by omega)
   rw [hpe] at hpa hz55_14
   have hpm := List.mem_of_getElem? hpa.1
   have hrm := hG.rmax p hpm
   have hgm : (A, row p.r) ∈ S.g := by have h := g_mem hpm; rw [hpa.2, hyA] at h; exact h
   refine rgn 1 <| sd ww [.p] [] [(7, I6 0)] [] 1 0 hS .nil fun a hS => seg_end <| hK62 _ _ <| wpIn_block ?_
   have hKs : TripK S pv w0.heap.size b wz55 a11 (ust + 1) bs n cp (zs ++ []) := ⟨hB56, by rw [List.append_nil]; exact ⟨hB57, hK.row.new⟩⟩
   have hxw : w.heap.size ≤ x11_14 := hw55_14
   refine loop_ghost (fun ((k, a2, u2, bs2, n2, cp2, v) : Nat × Nat × Nat × (Option Addr) × Nat × Nat × (List Nat)) a' w' => St 91 [] [(0, (Pv b)), (6, (Pv x11_14)), (7, I6 ↑k)] a' ∧ Ext (b :: ob (.slice bs n cp)) w w' ∧ k ≤ p.r.length ∧ Blk w' (x11_14) 73 #[I6 p.l, p.rv] ∧ TripK S pv w0.heap.size b w' a2 u2 bs2 n2 cp2 (zs ++ v) ∧ a2 ≤ u2 ∧ n2 ≤ u2 ∧ ust < u2 ∧ u2 ≤ 400 ∧ Fresh w.heap.size (ob (.slice bs n cp)) (ob (.slice bs2 n2 cp2)) ∧ MT S.g S.nl (row (p.r.take k)) v) (fun ((k, a2, u2, bs2, n2, cp2, v) : Nat × Nat × Nat × (Option Addr) × Nat × Nat × (List Nat)) => p.r.length - k) (0, a11, (ust + 1), bs, n, cp, []) ⟨hS.keepTo [0, 6, 7] (by kernel_rfl), hE60, by omega, hz55_14, hKs, by omega, by omega, by omega, by omega, fun x hx => .inl hx, .nil⟩ ?_
   rintro ⟨k, a2, u2, bs2, n2, cp2, v⟩ a wl63 ⟨hS, hXl63, hk, hxb, hK2, ha2, hn2, hu2, hu4, hf2, hmt⟩
   have hXl0 := hXl63
   refine sq fun K64 hK64 => sq fun K65 hK65 => rgn 5 <| sd ww [.p, .p, .ld (p.rv), .run (I6 ↑p.r.length), .p] [wl63.cell? ⟨x11_14, 1, none⟩ = some (p.rv), Ru Tryd.prog (vS (Builtin.len_ #[71] 3 #[p.rv])) (I6 ↑p.r.length) wl63] [(80, .bool (decide ((↑k : Int) < ↑p.r.length)))] [] 5 0 hS (.cons (hxb.cell 1 rfl) (.cons (run_len_rd (e := 61) (hG.right p hpm) (by kernel_rfl)) .nil)) fun a hS => seg_end <| hK65 _ _ ?_
   refine cond_b hS rfl (fun hb66 => ?_) (fun hb66 => ?_)
   ·
    replace hb66 := of_decide_eq_true hb66
    obtain ⟨x, hxk⟩ : ∃ x, p.r[k]? = some x := ⟨_, List.getElem?_eq_getElem (by omega)⟩
    have hxm := List.mem_of_getElem? hxk
    refine wpIn_skip <| hK64 _ _ <| sq fun K67 hK67 => wpIn_block <| sq fun K68 hK68 => rgn 8 <| sd ww [.p, .p, .ld (p.rv), .p, .run ((Po (bof p.rv) (oof p.rv + k * 2))), .lds [I6 x.1, I6 x.2]] [wl63.cell? ⟨x11_14, 1, none⟩ = some (p.rv), Ru Tryd.prog (vS (Instr.indexAt 71 (p.rv) (I6 ↑k))) ((Po (bof p.rv) (oof p.rv + k * 2))) wl63, wl63.cell? ⟨bof p.rv, oof p.rv + k * 2, none⟩ = some (I6 x.1), wl63.cell? ⟨bof p.rv, oof p.rv + k * 2 + 1, none⟩ = some (I6 x.2)] [(83, (Pv b)), (88, .agg #[I6 x.1, I6 x.2])] [] 6 2 hS (.cons (hxb.cell 1 rfl) (.cons (ix_rd (e := 61) (j := k) (hG.right p hpm) (by kernel_rfl) (by kernel_rfl) rfl (by omega)) (.cons (((hG.right p hpm).ext0 (hb.trans hXl63 (fun x hx => .inr (hnw x hx)))).cellAt (k * 2 + 0) (by omega) (ycells_at p.r k 0 x hxk (by omega))) (.cons (((hG.right p hpm).ext0 (hb.trans hXl63 (fun x hx => .inr (hnw x hx)))).cellAt (k * 2 + 1) (by omega) (ycells_at p.r k 1 x hxk (by omega))) .nil)))) fun a hS => eff_call ww (r := 1) (f := 28) (vs := [(Pv b), .agg #[I6 x.1, I6 x.2]]) (cap := #[]) (d := (some 89)) hS (by kernel_rfl) Tryd.call28 #[(Pv b), .agg #[I6 x.1, I6 x.2]] (by kernel_rfl) (ih _ a2 u2 bs2 n2 cp2 _ x (hb.trans hXl63 (fun x hx => .inr (hnw x hx))) hK2 ha2 hn2 hu2 hu4 (hok.ix.right p hpm x hxm)) ?_
    rintro _ wm (⟨rfl, hEm⟩ | ⟨a3, u3, bs3, n3, cp3, v3, rfl, hK3, hEm, hf3, ha3, hn3, hu3, hu43, hm3⟩)
    ·
     refine ⟨_, rfl, fun a hS => ?_⟩
     have hXm : Ext (b :: ob (.slice bs n cp)) w wm := hXl63.trans hEm (Fresh.ext hf2)
     refine sd ww [.p] [] [(90, .bool true)] [] 8 0 hS .nil fun a hS => seg_end <| hK68 _ _ ?_
     refine cond_t hS rfl ?_
     refine sq fun K69 hK69 => rgn 1 <| sd ww [.p] [] [(4, .bool false)] [] 1 0 hS .nil fun a hS => seg_end <| hK69 _ _ <| wpIn_ret <| inBlock_ret <| then_ret <| then_ret <| inBlock_ret <| then_ret ?_
     refine ret1 hS Tryd.results28 rfl ?_
     exact .inl ⟨rfl, hXm⟩
    ·
     refine ⟨_, rfl, fun a hS => ?_⟩
     have hXm : Ext (b :: ob (.slice bs n cp)) w wm := hXl63.trans hEm (Fresh.ext hf2)
     have hxb3 : Blk wm x11_14 73 #[I6 p.l, p.rv] := hxb.ext hEm (fun hm => by
      rcases List.mem_cons.1 hm with h | h
      ·have := hK.blk.lt; omega
      ·exact hK2.row.own.ne hxb (by decide) _ h rfl)
     rw [List.append_assoc] at hK3
     have hmt3 : MT S.g S.nl (row (p.r.take (k + 1))) (v ++ v3) := by
      rw [List.take_add_one, hxk, row, List.map_append]; exact MT_app hmt hm3
     refine sd ww [.p] [] [(90, .bool false)] [] 8 0 hS .nil fun a hS => seg_end <| hK68 _ _ ?_
     refine cond_f hS rfl ?_
     refine wpIn_skip <| inBlock_normal <| hK67 _ _ <| rgn 3 <| sd ww [.p, .as (I6 (↑k + 1)), .p] [Value.int .i64 (IntKind.i64.wrap (↑k + 1)) = I6 (↑k + 1)] [(7, I6 (↑k + 1))] [] 3 0 hS (.cons (as_i64 (by omega)) .nil) fun a hS => seg_end ?_
     exact ⟨(k + 1, a3, u3, bs3, n3, cp3, (v ++ v3)), ⟨hS.kp [(0, (Pv b)), (6, (Pv x11_14)), (7, I6 (↑k + 1))], hXm, by omega, hxb3, hK3, ha3, hn3, by omega, hu43, Fresh.trans' hf2 hf3 hXl0.size, hmt3⟩, by simp only; omega⟩
   ·
    replace hb66 := of_decide_eq_false hb66
    rw [List.take_of_length_le (by omega)] at hmt
    refine wpIn_exit <| then_exit <| then_exit <| inBlock_hit <| hK61 _ _ <| sq fun K70 hK70 => rgn 1 <| sd ww [.p] [] [(4, .bool true)] [] 1 0 hS .nil fun a hS => seg_end <| hK70 _ _ <| wpIn_ret ?_
    refine ret1 hS Tryd.results28 rfl ?_
    exact .inr ⟨a2, u2, bs2, n2, cp2, v, rfl, hK2, hXl63, hf2, ha2, hn2, by omega, hu4, by rw [hsy, ← List.append_nil v]; exact .m hgm hmt .nil⟩

theorem trip_any {w0 : World} {S : Sp} (hG : SpOk w0 S) {pv : Value} {np : Nat} {ts : List Int} (hp : RdV w0 1 pv np (its ts)) (hpm0 : np ≤ 1048576) (hok : GOk S) {b : Nat} (hbn : w0.heap.size ≤ b) : ∀ (d : Nat) {w : World} {aq ust : Nat} {bs : Option Addr} {n cp : Nat} {zs : List Nat} {y : Sy}, 400 - ust < d → Ext [] w0 w → TripK S pv w0.heap.size b w aq ust bs n cp zs → aq ≤ ust → n ≤ ust → ust ≤ 400 → syOk S y → Calls Tryd.prog 28 #[(Pv b), .agg #[I6 y.1, I6 y.2]] w (MkR S pv w0.heap.size b [sm y] ust bs n cp zs w)
 | 0, _, _, _, _, _, _, _, _, hd, _, _, _, _, _, _ => by omega
 | d + 1, w, aq, ust, bs, n, cp, zs, y, hd, hb, hK, h1, h2, h3, h4 => makes_step hG hb hp hpm0 hok hbn hK h1 h2 h3 h4 fun w aq u3 bs n cp zs y hb hK h1 h2 h5 h6 h7 => trip_any hG hp hpm0 hok hbn d (by omega) hb hK h1 h2 h6 h7

end Go.Proofs.YtkkpghlcmcaoiaaDoor
