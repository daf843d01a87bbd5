import Derived.Test.YtkkpghlcmcaoiaaDoorS18
import Derived.Test.YtkkpghlcmcaoiaaDoorTn
namespace Go.Proofs.YtkkpghlcmcaoiaaDoor
open Go.Vc Go.Gm

theorem MT_app {G : Gr} {nl : Nat} {a b : List Sm} {u v : List Nat} (h : MT G nl a u) (h' : MT G nl b v) : MT G nl (a ++ b) (u ++ v) := by
 induction h with
 | nil => exact h'
 | t _ ih => exact .t ih
 | e _ ih => exact .e ih
 | m hm hq _ _ ih => rw [List.append_assoc]; exact .m hm hq ih
/-- the places of a name's productions -/
def ownL : List Pd → Int → Nat → List Nat
 | [], _, _ => []
 | p :: ps, z, i => if p.l = z then i :: ownL ps z (i + 1) else ownL ps z (i + 1)
theorem ownL_step {ps : List Pd} {i : Nat} {p : Pd} (h : ps[i]? = some p) (z : Int) : ownL (ps.drop i) z i = if p.l = z then i :: ownL (ps.drop (i + 1)) z (i + 1) else ownL (ps.drop (i + 1)) z (i + 1) := by
 rw [List.drop_eq_getElem?_toList_append, h]; rfl
theorem ownL_mem : ∀ {ps : List Pd} {z : Int} {i q : Nat}, q ∈ ownL ps z i → ∃ j p, q = i + j ∧ ps[j]? = some p ∧ p.l = z
 | [], _, _, _, h => by cases h
 | p :: ps, z, i, q, h => by
  unfold ownL at h
  split at h
  ·rename_i hp
   rcases List.mem_cons.1 h with h | h
   ·exact ⟨0, p, h, rfl, hp⟩
   ·obtain ⟨j, p', h1, h2, h3⟩ := ownL_mem h
    exact ⟨j + 1, p', by omega, h2, h3⟩
  ·obtain ⟨j, p', h1, h2, h3⟩ := ownL_mem h
   exact ⟨j + 1, p', by omega, h2, h3⟩
theorem ownL_pos : ∀ {ps : List Pd} {z : Int} {i : Nat} {p : Pd}, p ∈ ps → p.l = z → 0 < (ownL ps z i).length
 | q :: ps, z, i, p, h, hz => by
  unfold ownL
  split
  ·simp
  ·rcases List.mem_cons.1 h with h | h
   ·subst h; contradiction
   ·exact ownL_pos h hz
theorem ownL_len : ∀ (ps : List Pd) (z : Int) (i : Nat), (ownL ps z i).length ≤ ps.length
 | [], _, _ => Nat.le_refl _
 | p :: ps, z, i => by
  have := ownL_len ps z (i + 1)
  unfold ownL
  split <;> simp only [List.length_cons] <;> omega
theorem RowN.mono {N N' : Nat} {w : World} {bs : Option Addr} {n cp : Nat} {zs : List Nat} (h : RowN N w bs n cp zs) (hn : N' ≤ N) : RowN N' w bs n cp zs := ⟨h.own, fun x hx => Nat.le_trans hn (h.new x hx)⟩
theorem RowN.nil (N : Nat) (w : World) : RowN N w none 0 0 [] := ⟨OwnV.nil _ _ _, fun x hx => by simp [ob] at hx⟩

theorem own_any {w0 w : World} {S : Sp} (hG : SpOk w0 S) (hb : Ext [] w0 w) (z : Int) :
  Calls Tryd.prog 70 #[.agg S.ca, I6 z] w fun e w' => ∃ bs n cp, e = .returned (.slice bs n cp) ∧ RowN w.heap.size w' bs n cp (ownL S.ps z 0) ∧ Ext [] w w' := by
 have hlmax := hG.lmax
 have hnmax := hG.nmax
 have hpmax := hG.pmax
 refine calls_body 27 [(0, .agg S.ca), (1, I6 z)] Tryd.func70 rfl (by kernel_rfl) (by kernel_rfl) (by kernel_rfl) fun a hS => ?_
 have hE0 : Ext [] w w := Ext.refl _ _
 refine sq fun K1 hK1 => rgn 2 <| eff_box ww (r := 1) (cs := S.ca) (T := 26) (d := (some 2)) hS (by kernel_rfl) fun a w2 hw3 hS => ?_
 have hB4 : Blk w2 (w.heap.size) 26 S.ca := by rw [hw3]; exact Blk.new _ _ _
 have hs5 : w.heap.size ≤ w.heap.size := hE0.size
 have hE6 : Ext [] w w2 := by rw [hw3]; exact hE0.alloc _
 refine sd ww [.p] [] [(4, .slice none 0 0)] [] 2 0 hS .nil fun a hS => seg_end <| hK1 _ _ <| sq fun K7 hK7 => ?_
 have hbr8 : Ext [] w0 w2 := (hb.trans0 hE6)
 have hEr8 : Ext [] w2 w2 := Ext.refl _ _
 refine rgn 1 <| sd ww [.p] [] [(5, .slice none 0 0)] [] 1 0 hS .nil fun a hS => seg_end <| hK7 _ _ <| sq fun K9 hK9 => sq fun K10 hK10 => rgn 1 <| sd ww [.p] [] [(6, I6 0)] [] 1 0 hS .nil fun a hS => seg_end <| hK10 _ _ <| wpIn_block ?_
 refine loop_ghost (fun ((i, bs, n, cp, zs) : Nat × (Option Addr) × Nat × Nat × (List Nat)) a' w' => St 27 [] [(1, I6 z), (2, (Pv w.heap.size)), (5, .slice bs n cp), (6, I6 ↑i)] a' ∧ Ext [] w2 w' ∧ i ≤ S.ps.length ∧ RowN w2.heap.size w' bs n cp zs ∧ zs ++ ownL (S.ps.drop i) z i = ownL S.ps z 0) (fun ((i, bs, n, cp, zs) : Nat × (Option Addr) × Nat × Nat × (List Nat)) => S.ps.length - i) (0, none, 0, 0, []) ⟨hS.keepTo [1, 2, 5, 6] (by kernel_rfl), hEr8, by omega, RowN.nil _ _, rfl⟩ ?_
 rintro ⟨i, bs, n, cp, zs⟩ a wl11 ⟨hS, hXl11, hi, hR, hz⟩
 refine sq fun K12 hK12 => sq fun K13 hK13 => rgn 5 <| sd ww [.p, .p, .ld (S.pv), .run (I6 ↑S.ps.length), .p] [wl11.cell? ⟨w.heap.size, 3, none⟩ = some (S.pv), Ru Tryd.prog (vS (Builtin.len_ #[24] 3 #[S.pv])) (I6 ↑S.ps.length) wl11] [(11, .bool (decide ((↑i : Int) < ↑S.ps.length)))] [] 5 0 hS (.cons (((hB4.ext hXl11 (by simp))).cell 3 rfl) (.cons (run_len_rd (e := 73) hG.prods (by kernel_rfl)) .nil)) fun a hS => seg_end <| hK13 _ _ ?_
 refine cond_b hS rfl (fun hb14 => ?_) (fun hb14 => ?_)
 ·
  replace hb14 := of_decide_eq_true hb14
  obtain ⟨p, hpi⟩ : ∃ p, S.ps[i]? = some p := ⟨_, List.getElem?_eq_getElem (by omega)⟩
  have hpm := List.mem_of_getElem? hpi
  have hrm := hG.rmax p hpm
  rw [ownL_step hpi] at hz
  have hnz := hR.len
  have hlz := congrArg List.length hz
  rw [List.length_append] at hlz
  have hol := ownL_len S.ps z 0
  refine wpIn_skip <| hK12 _ _ <| sq fun K15 hK15 => wpIn_block <| sq fun K16 hK16 => ?_
  rcases (show (p.l = z) ∨ (¬p.l = z) from by omega) with h2 | h2
  ·
   rw [if_pos h2] at hz hlz
   simp only [List.length_cons] at hlz
   refine rgn 8 <| sd ww [.p, .ld (S.pv), .p, .run ((Po (bof S.pv) (oof S.pv + i * 2))), .p, .ld (I6 p.l), .p, .as (.bool true)] [wl11.cell? ⟨w.heap.size, 3, none⟩ = some (S.pv), Ru Tryd.prog (vS (Instr.indexAt 24 (S.pv) (I6 ↑i))) ((Po (bof S.pv) (oof S.pv + i * 2))) wl11, wl11.cell? ⟨bof S.pv, oof S.pv + i * 2, none⟩ = some (I6 p.l), Value.bool (((p.l : Int) == z)) = .bool true] [(21, .bool true)] [] 8 0 hS (.cons (((hB4.ext hXl11 (by simp))).cell 3 rfl) (.cons (ix_rd (e := 73) (j := i) hG.prods (by kernel_rfl) (by kernel_rfl) rfl (by omega)) (.cons ((hG.prods.ext0 (hbr8.trans0 hXl11)).cellAt (i * 2 + 0) (by omega) (pcells_at S.ps i 0 p hpi (by omega))) (.cons (as_eq_t (by omega)) .nil)))) fun a hS => seg_end <| hK16 _ _ ?_
   refine cond_t hS rfl ?_
   refine rgn 5 <| sd ww [.p, .p] [] [(22, .slice bs n cp), (23, I6 ↑i)] [] 2 3 hS .nil fun a hS => eff_new ww (r := 2) (cs := #[I6 ↑i]) (T := 3) (v := Value.slice (some ⟨wl11.heap.size, 0, none⟩) 1 1) (d := (some 24)) hS (by kernel_rfl) fun a w17 hw18 hS => ?_
   have hB22 := OwnV.at' hw18 (hR.own.alloc _)
   have hB23 : Blk w17 (wl11.heap.size) 3 #[I6 ↑i] := by rw [hw18]; exact Blk.new _ _ _
   have hs24 : w2.heap.size ≤ wl11.heap.size := hXl11.size
   have hE25 : Ext [] w2 w17 := by rw [hw18]; exact hXl11.alloc _
   refine eff_append2 ww (r := 1) (d := (some 25)) (t := 51) (ty := 51) (e := 3) (size := 1) (bytes := 8) (len := n) (b := wl11.heap.size) (off := 0) (k := 1) (c := 1) (z := #[I6 0]) (v := Value.slice bs n cp) (xs := (ivs zs)) [I6 ↑i] hS (by kernel_rfl) (by kernel_rfl) (by kernel_rfl) (by kernel_rfl) (by kernel_rfl) hB22 (by simp) (fun j u hu => by rw [Nat.zero_add]; exact hB23.cell j (by simpa using hu)) rfl (by omega) (by omega) (by omega) fun ga26 ca26 a wa26 hOa26 hEa26 hFa26 hS => ?_
   have hE29 : Ext [] w2 wa26 := hE25.trans hEa26 (fun b hb => .inr (hR.new b hb))
   refine sd ww [.p] [] [(5, Sl ga26 (n + 1) ca26)] [] 5 0 hS .nil fun a hS => seg_end <| inBlock_normal <| hK15 _ _ <| rgn 3 <| sd ww [.p, .as (I6 (↑i + 1)), .p] [Value.int .i64 (IntKind.i64.wrap (↑i + 1)) = I6 (↑i + 1)] [(6, I6 (↑i + 1))] [] 3 0 hS (.cons (as_i64 (by omega)) .nil) fun a hS => seg_end ?_
   exact ⟨(i + 1, (some ⟨ga26, 0, none⟩), (n + 1), ca26, (zs ++ [i])), ⟨hS.kp [(1, I6 z), (2, (Pv w.heap.size)), (5, Sl ga26 (n + 1) ca26), (6, I6 (↑i + 1))], hE29, by omega, hR.grow hOa26 hE25.size hFa26, by rw [List.append_assoc]; exact hz⟩, by simp only; omega⟩
  ·
   rw [if_neg h2] at hz
   refine rgn 8 <| sd ww [.p, .ld (S.pv), .p, .run ((Po (bof S.pv) (oof S.pv + i * 2))), .p, .ld (I6 p.l), .p, .as (.bool false)] [wl11.cell? ⟨w.heap.size, 3, none⟩ = some (S.pv), Ru Tryd.prog (vS (Instr.indexAt 24 (S.pv) (I6 ↑i))) ((Po (bof S.pv) (oof S.pv + i * 2))) wl11, wl11.cell? ⟨bof S.pv, oof S.pv + i * 2, none⟩ = some (I6 p.l), Value.bool (((p.l : Int) == z)) = .bool false] [(21, .bool false)] [] 8 0 hS (.cons (((hB4.ext hXl11 (by simp))).cell 3 rfl) (.cons (ix_rd (e := 73) (j := i) hG.prods (by kernel_rfl) (by kernel_rfl) rfl (by omega)) (.cons ((hG.prods.ext0 (hbr8.trans0 hXl11)).cellAt (i * 2 + 0) (by omega) (pcells_at S.ps i 0 p hpi (by omega))) (.cons (as_eq_f (by omega)) .nil)))) fun a hS => seg_end <| hK16 _ _ ?_
   refine cond_f hS rfl ?_
   refine wpIn_skip <| inBlock_normal <| hK15 _ _ <| rgn 3 <| sd ww [.p, .as (I6 (↑i + 1)), .p] [Value.int .i64 (IntKind.i64.wrap (↑i + 1)) = I6 (↑i + 1)] [(6, I6 (↑i + 1))] [] 3 0 hS (.cons (as_i64 (by omega)) .nil) fun a hS => seg_end ?_
   exact ⟨(i + 1, bs, n, cp, zs), ⟨hS.kp [(1, I6 z), (2, (Pv w.heap.size)), (5, .slice bs n cp), (6, I6 (↑i + 1))], hXl11, by omega, hR, hz⟩, by simp only; omega⟩
 ·
  replace hb14 := of_decide_eq_false hb14
  rw [show S.ps.drop i = [] from List.drop_eq_nil_of_le (by omega), show ownL [] z i = [] from rfl, List.append_nil] at hz
  refine wpIn_exit <| then_exit <| then_exit <| inBlock_hit <| hK9 _ _ <| sq fun K30 hK30 => rgn 2 <| sd ww [.p, .p] [] [(4, .slice bs n cp)] [] 2 0 hS .nil fun a hS => seg_end <| hK30 _ _ <| wpIn_ret ?_
  refine ret1 hS Tryd.results70 rfl ?_
  exact ⟨_, _, _, rfl, hz ▸ hR.mono hE6.size, (hE6.trans0 hXl11)⟩

theorem tmod_bd2 (z : Int) {n : Nat} (hn : 0 < n) : (∃ k : Nat, z.tmod n = k ∧ k < n) ∨ (∃ k : Nat, z.tmod n + n = k ∧ k < n ∧ z.tmod n < 0) := by
 have h := tmod_bd z (n := n) (by omega)
 rcases Int.lt_or_le (z.tmod n) 0 with h1 | h1
 ·exact .inr ⟨(z.tmod n + n).toNat, by omega, by omega, h1⟩
 ·exact .inl ⟨(z.tmod n).toNat, by omega, by omega⟩

theorem pick_any {w0 w : World} {S : Sp} (hG : SpOk w0 S) (hb : Ext [] w0 w) {pv : Value} {np : Nat} {ts : List Int} (hp : RdV w0 1 pv np (its ts)) (hpm0 : np ≤ 1048576) {b aq ust : Nat} {bs : Option Addr} {n cp : Nat} (hbn : w0.heap.size ≤ b) (hB : Blk w b 58 #[S.lv, S.nv, I6 S.st, S.pv, pv, I6 ↑aq, .slice bs n cp, I6 ↑ust]) (haq : aq ≤ 1000000) {mx : Nat} (hmx : 0 < mx) (hmm : mx ≤ 1048576) :
  Calls Tryd.prog 71 #[(Pv b), I6 ↑mx] w fun e w' => ∃ k a2 : Nat, e = .returned (I6 k) ∧ k < mx ∧ a2 ≤ aq + 1 ∧ Blk w' b 58 #[S.lv, S.nv, I6 S.st, S.pv, pv, I6 ↑a2, .slice bs n cp, I6 ↑ust] ∧ Ext [b] w w' := by
 have htl : ts.length = np := by have := hp.len; simpa [its] using this
 refine calls_body 43 [(0, (Pv b)), (1, I6 ↑mx)] Tryd.func71 rfl (by kernel_rfl) (by kernel_rfl) (by kernel_rfl) fun a hS => ?_
 have hE0 : Ext [b] w w := Ext.refl _ _
 refine sq fun K1 hK1 => rgn 1 <| sd ww [.p] [] [(4, I6 0)] [] 1 0 hS .nil fun a hS => seg_end <| hK1 _ _ <| sq fun K2 hK2 => sq fun K3 hK3 => ?_
 rcases (show (np = 0) ∨ (0 < np) from by omega) with hn0 | hn0
 ·
  refine rgn 6 <| sd ww [.p, .p, .p, .ld (pv), .run (I6 ↑np), .as (.bool true)] [w.cell? ⟨b, 4, none⟩ = some (pv), Ru Tryd.prog (vS (Builtin.len_ #[51] 3 #[pv])) (I6 ↑np) w, Value.bool (((↑np : Int) == 0)) = .bool true] [(11, .bool true)] [] 6 0 hS (.cons (hB.cell 4 rfl) (.cons (run_len_rd (e := 3) hp (by kernel_rfl)) (.cons (as_eq_t (by omega)) .nil))) fun a hS => seg_end <| hK3 _ _ ?_
  refine cond_t hS rfl ?_
  refine sq fun K4 hK4 => rgn 1 <| sd ww [.p] [] [] [] 1 0 hS .nil fun a hS => seg_end <| hK4 _ _ <| wpIn_ret <| then_ret ?_
  refine ret1 hS Tryd.results71 rfl ?_
  exact ⟨0, aq, rfl, hmx, by omega, hB, hE0⟩
 ·
  obtain ⟨t, hti⟩ : ∃ t, ts[aq % np]? = some t := ⟨_, List.getElem?_eq_getElem (by rw [htl]; exact Nat.mod_lt _ hn0)⟩
  have hml := Nat.mod_lt aq hn0
  obtain ⟨r2, hr2⟩ : ∃ r2 : Int, r2 = t.tmod mx := ⟨_, rfl⟩
  have hjj := tmod_bd2 t hmx
  rw [← hr2] at hjj
  refine rgn 6 <| sd ww [.p, .p, .p, .ld (pv), .run (I6 ↑np), .as (.bool false)] [w.cell? ⟨b, 4, none⟩ = some (pv), Ru Tryd.prog (vS (Builtin.len_ #[51] 3 #[pv])) (I6 ↑np) w, Value.bool (((↑np : Int) == 0)) = .bool false] [(11, .bool false)] [] 6 0 hS (.cons (hB.cell 4 rfl) (.cons (run_len_rd (e := 3) hp (by kernel_rfl)) (.cons (as_eq_f (by omega)) .nil))) fun a hS => seg_end <| hK3 _ _ ?_
  refine cond_f hS rfl ?_
  refine wpIn_skip <| hK2 _ _ <| sq fun K5 hK5 => ?_
  rcases (show (∃ k : Nat, r2 = k ∧ k < mx) ∨ (∃ k : Nat, r2 + mx = k ∧ k < mx ∧ r2 < 0) from hjj) with ⟨k, hk, hkl⟩ | ⟨k, hk, hkl, hk0⟩
  ·
   refine region_fn2 ww [.q .p, .q .p, .q .p, .q (.ld (pv)), .q .p, .q .p, .q .p, .q (.ld (I6 ↑aq)), .q .p, .q .p, .q .p, .q (.ld (pv)), .q (.run (I6 ↑np)), .q (.run (I6 ((aq % np : Nat) : Int))), .q (.run ((Po (bof pv) (oof pv + (aq % np) * 1)))), .q (.ld (I6 t)), .q .p, .q (.run (I6 ↑k)), .q .p] [0, 0, 0, 0, 0, 0, 0, 0, 0, 0, 0, 0, 0, 0, 0, 0, 0, 0, 0] [0, 0, 0, 0, 0, 0, 0, 0, 0, 0, 0, 0, 0, 0, 0, 0, 0, 0, 0] [0, 1, 3, 7, 0, 16, 48, 112, 0, 256, 768, 1792, 3840, 8176, 16383, 32767, 0, 131071, 262143] [] 0 ([(0, (Pv b)), (1, I6 ↑mx), (4, I6 0), (11, .bool false), (12, (Pv b)), (13, (Pv b)), (14, (Po b 4)), (15, pv), (16, (Pv b)), (17, (Pv b)), (18, (Po b 5)), (19, I6 ↑aq), (20, (Pv b)), (21, (Pv b)), (22, (Po b 4)), (23, pv), (24, I6 ↑np), (25, I6 ((aq % np : Nat) : Int)), (26, (Po (bof pv) (oof pv + (aq % np) * 1))), (27, I6 t), (28, I6 ↑mx), (29, I6 ↑k), (5, I6 ↑k)]) [w.drew] w.drew (fun w' => [(3, [w'.cell? ⟨b, 4, none⟩ = some (pv)]), (7, [w'.cell? ⟨b, 5, none⟩ = some (I6 ↑aq)]), (11, [w'.cell? ⟨b, 4, none⟩ = some (pv)]), (12, [Ru Tryd.prog (vS (Builtin.len_ #[51] 3 #[pv])) (I6 ↑np) w']), (13, [Ru Tryd.prog (vS (do eqGuard .rem 3 (.tmp 19) (.tmp 24) (I6 ↑aq) (I6 ↑np); binOp .rem 3 (I6 ↑aq) (I6 ↑np))) (I6 ((aq % np : Nat) : Int)) w']), (14, [Ru Tryd.prog (vS (Instr.indexAt 51 (pv) (I6 ((aq % np : Nat) : Int)))) ((Po (bof pv) (oof pv + (aq % np) * 1))) w']), (15, [w'.cell? ⟨bof pv, oof pv + (aq % np) * 1, none⟩ = some (I6 t)]), (17, [Ru Tryd.prog (vS (do eqGuard .rem 3 (.tmp 27) (.tmp 28) (I6 t) (I6 ↑mx); binOp .rem 3 (I6 t) (I6 ↑mx))) (I6 ↑k) w'])]) [0, 1, 4, 11] [] hS (by kernel_rfl) (by kernel_rfl) (by kernel_rfl) (by kernel_rfl) (fun _ => by kernel_rfl) (by kernel_rfl) (by kernel_rfl) (by kernel_rfl) ?_ ?_ ?_
   ·intro e w' hw
    refine (.cons ?_ (.cons ?_ (.cons ?_ (.cons ?_ (.cons ?_ (.cons ?_ (.cons ?_ (.cons ?_ .nil))))))))
    ·intro h1 h2
     obtain rfl : e = 0 := Nat.le_antisymm h2 h1
     obtain rfl : w' = w.drew := hw.trans (by kernel_rfl)
     exact (.cons ((hB.drew : Blk w.drew b 58 (#[S.lv, S.nv, I6 S.st, S.pv, pv, I6 ↑aq, .slice bs n cp, I6 ↑ust])).cell 4 rfl) .nil)
    ·intro h1 h2
     obtain rfl : e = 0 := Nat.le_antisymm h2 h1
     obtain rfl : w' = w.drew := hw.trans (by kernel_rfl)
     exact (.cons ((hB.drew : Blk w.drew b 58 (#[S.lv, S.nv, I6 S.st, S.pv, pv, I6 ↑aq, .slice bs n cp, I6 ↑ust])).cell 5 rfl) .nil)
    ·intro h1 h2
     obtain rfl : e = 0 := Nat.le_antisymm h2 h1
     obtain rfl : w' = w.drew := hw.trans (by kernel_rfl)
     exact (.cons ((hB.drew : Blk w.drew b 58 (#[S.lv, S.nv, I6 S.st, S.pv, pv, I6 ↑aq, .slice bs n cp, I6 ↑ust])).cell 4 rfl) .nil)
    ·exact fun _ _ => (.cons (run_len_rd (e := 3) hp (by kernel_rfl)) .nil)
    ·exact fun _ _ => (.cons ((bin_remNN (by omega))) .nil)
    ·exact fun _ _ => (.cons (ix_rd (e := 3) (j := (aq % np)) hp (by kernel_rfl) (by kernel_rfl) rfl hml) .nil)
    ·intro h1 h2
     obtain rfl : e = 0 := Nat.le_antisymm h2 h1
     obtain rfl : w' = w.drew := hw.trans (by kernel_rfl)
     exact (.cons ((hp.ext0 ((hb.trans hE0 (fun b hbM => by simp at hbM; rw [hbM]; exact .inr hbn)).trans0 (by first | exact (Ext.refl [] _).drew | exact Ext.refl [] _))).cellAt ((aq % np) * 1) (by omega) (its_at hti)) .nil)
    ·exact fun _ _ => (.cons ((by have h := bin_rem (P := Tryd.prog) (w := w') (T := 3) (a := .tmp 27) (b := .tmp 28) (x := t) (y := (mx : Int)) (by omega); rw [← hr2, hk] at h; exact h)) .nil)
   ·refine .nil
   rintro a w7 hS hw8
   replace hw8 : w7 = w.drew := hw8.trans (by kernel_rfl)
   have hB9 := Blk.at' hw8 (hB.drew)
   have hE10 : Ext [b] w w7 := by rw [hw8]; exact hE0.drew
   replace hS := hS.kp [(0, (Pv b)), (1, I6 ↑mx), (4, I6 0), (11, .bool false), (5, I6 ↑k)]
   refine hK5 _ _ <| sq fun K11 hK11 => rgn 8 <| sd ww [.p, .p, .p, .ld (I6 ↑aq), .as (I6 ((aq + 1 : Nat) : Int)), .p, .p] [w7.cell? ⟨b, 5, none⟩ = some (I6 ↑aq), Value.int .i64 (IntKind.i64.wrap (↑aq + 1)) = I6 ((aq + 1 : Nat) : Int)] [(34, I6 ((aq + 1 : Nat) : Int)), (36, (Po b 5))] [] 7 1 hS (.cons (hB9.cell 5 rfl) (.cons ((by rw [show (↑aq + 1 : Int) = ((aq + 1 : Nat) : Int) from by omega]; exact as_i64 (by omega))) .nil)) fun a hS => eff_store ww (r := 0) (b := b) (off := 5) (vs := [I6 ((aq + 1 : Nat) : Int)]) hS (by kernel_rfl) hB9 (by simp) fun a w12 hw13 hS => ?_
   have hB14 : Blk w12 b 58 (#[S.lv, S.nv, I6 S.st, S.pv, pv, I6 ((aq + 1 : Nat) : Int), .slice bs n cp, I6 ↑ust]) := by rw [hw13]; exact hB9.upd _ _
   have hE15 : Ext [b] w w12 := by rw [hw13]; exact hE10.updIn (.inl (by simp)) _ _
   refine seg_end <| hK11 _ _ <| sq fun K16 hK16 => sq fun K17 hK17 => rgn 2 <| sd ww [.p, .as (.bool false)] [Value.bool (decide ((↑k : Int) < 0)) = .bool false] [(38, .bool false)] [] 2 0 hS (.cons (as_f (by omega)) .nil) fun a hS => seg_end <| hK17 _ _ ?_
   refine cond_f hS rfl ?_
   refine wpIn_skip <| hK16 _ _ <| sq fun K18 hK18 => rgn 2 <| sd ww [.p, .p] [] [(4, I6 ↑k)] [] 2 0 hS .nil fun a hS => seg_end <| hK18 _ _ <| wpIn_ret ?_
   refine ret1 hS Tryd.results71 rfl ?_
   exact ⟨k, aq + 1, rfl, hkl, by omega, hB14, hE15⟩
  ·
   refine region_fn2 ww [.q .p, .q .p, .q .p, .q (.ld (pv)), .q .p, .q .p, .q .p, .q (.ld (I6 ↑aq)), .q .p, .q .p, .q .p, .q (.ld (pv)), .q (.run (I6 ↑np)), .q (.run (I6 ((aq % np : Nat) : Int))), .q (.run ((Po (bof pv) (oof pv + (aq % np) * 1)))), .q (.ld (I6 t)), .q .p, .q (.run (I6 r2)), .q .p] [0, 0, 0, 0, 0, 0, 0, 0, 0, 0, 0, 0, 0, 0, 0, 0, 0, 0, 0] [0, 0, 0, 0, 0, 0, 0, 0, 0, 0, 0, 0, 0, 0, 0, 0, 0, 0, 0] [0, 1, 3, 7, 0, 16, 48, 112, 0, 256, 768, 1792, 3840, 8176, 16383, 32767, 0, 131071, 262143] [] 0 ([(0, (Pv b)), (1, I6 ↑mx), (4, I6 0), (11, .bool false), (12, (Pv b)), (13, (Pv b)), (14, (Po b 4)), (15, pv), (16, (Pv b)), (17, (Pv b)), (18, (Po b 5)), (19, I6 ↑aq), (20, (Pv b)), (21, (Pv b)), (22, (Po b 4)), (23, pv), (24, I6 ↑np), (25, I6 ((aq % np : Nat) : Int)), (26, (Po (bof pv) (oof pv + (aq % np) * 1))), (27, I6 t), (28, I6 ↑mx), (29, I6 r2), (5, I6 r2)]) [w.drew] w.drew (fun w' => [(3, [w'.cell? ⟨b, 4, none⟩ = some (pv)]), (7, [w'.cell? ⟨b, 5, none⟩ = some (I6 ↑aq)]), (11, [w'.cell? ⟨b, 4, none⟩ = some (pv)]), (12, [Ru Tryd.prog (vS (Builtin.len_ #[51] 3 #[pv])) (I6 ↑np) w']), (13, [Ru Tryd.prog (vS (do eqGuard .rem 3 (.tmp 19) (.tmp 24) (I6 ↑aq) (I6 ↑np); binOp .rem 3 (I6 ↑aq) (I6 ↑np))) (I6 ((aq % np : Nat) : Int)) w']), (14, [Ru Tryd.prog (vS (Instr.indexAt 51 (pv) (I6 ((aq % np : Nat) : Int)))) ((Po (bof pv) (oof pv + (aq % np) * 1))) w']), (15, [w'.cell? ⟨bof pv, oof pv + (aq % np) * 1, none⟩ = some (I6 t)]), (17, [Ru Tryd.prog (vS (do eqGuard .rem 3 (.tmp 27) (.tmp 28) (I6 t) (I6 ↑mx); binOp .rem 3 (I6 t) (I6 ↑mx))) (I6 r2) w'])]) [0, 1, 4, 11] [] hS (by kernel_rfl) (by kernel_rfl) (by kernel_rfl) (by kernel_rfl) (fun _ => by kernel_rfl) (by kernel_rfl) (by kernel_rfl) (by kernel_rfl) ?_ ?_ ?_
   ·intro e w' hw
    refine (.cons ?_ (.cons ?_ (.cons ?_ (.cons ?_ (.cons ?_ (.cons ?_ (.cons ?_ (.cons ?_ .nil))))))))
    ·intro h1 h2
     obtain rfl : e = 0 := Nat.le_antisymm h2 h1
     obtain rfl : w' = w.drew := hw.trans (by kernel_rfl)
     exact (.cons ((hB.drew : Blk w.drew b 58 (#[S.lv, S.nv, I6 S.st, S.pv, pv, I6 ↑aq, .slice bs n cp, I6 ↑ust])).cell 4 rfl) .nil)
    ·intro h1 h2
     obtain rfl : e = 0 := Nat.le_antisymm h2 h1
     obtain rfl : w' = w.drew := hw.trans (by kernel_rfl)
     exact (.cons ((hB.drew : Blk w.drew b 58 (#[S.lv, S.nv, I6 S.st, S.pv, pv, I6 ↑aq, .slice bs n cp, I6 ↑ust])).cell 5 rfl) .nil)
    ·intro h1 h2
     obtain rfl : e = 0 := Nat.le_antisymm h2 h1
     obtain rfl : w' = w.drew := hw.trans (by kernel_rfl)
     exact (.cons ((hB.drew : Blk w.drew b 58 (#[S.lv, S.nv, I6 S.st, S.pv, pv, I6 ↑aq, .slice bs n cp, I6 ↑ust])).cell 4 rfl) .nil)
    ·exact fun _ _ => (.cons (run_len_rd (e := 3) hp (by kernel_rfl)) .nil)
    ·exact fun _ _ => (.cons ((bin_remNN (by omega))) .nil)
    ·exact fun _ _ => (.cons (ix_rd (e := 3) (j := (aq % np)) hp (by kernel_rfl) (by kernel_rfl) rfl hml) .nil)
    ·intro h1 h2
     obtain rfl : e = 0 := Nat.le_antisymm h2 h1
     obtain rfl : w' = w.drew := hw.trans (by kernel_rfl)
     exact (.cons ((hp.ext0 ((hb.trans hE0 (fun b hbM => by simp at hbM; rw [hbM]; exact .inr hbn)).trans0 (by first | exact (Ext.refl [] _).drew | exact Ext.refl [] _))).cellAt ((aq % np) * 1) (by omega) (its_at hti)) .nil)
    ·exact fun _ _ => (.cons ((by have h := bin_rem (P := Tryd.prog) (w := w') (T := 3) (a := .tmp 27) (b := .tmp 28) (x := t) (y := (mx : Int)) (by omega); rw [← hr2] at h; exact h)) .nil)
   ·refine .nil
   rintro a w20 hS hw21
   replace hw21 : w20 = w.drew := hw21.trans (by kernel_rfl)
   have hB22 := Blk.at' hw21 (hB.drew)
   have hE23 : Ext [b] w w20 := by rw [hw21]; exact hE0.drew
   replace hS := hS.kp [(0, (Pv b)), (1, I6 ↑mx), (4, I6 0), (11, .bool false), (5, I6 r2)]
   refine hK5 _ _ <| sq fun K24 hK24 => rgn 8 <| sd ww [.p, .p, .p, .ld (I6 ↑aq), .as (I6 ((aq + 1 : Nat) : Int)), .p, .p] [w20.cell? ⟨b, 5, none⟩ = some (I6 ↑aq), Value.int .i64 (IntKind.i64.wrap (↑aq + 1)) = I6 ((aq + 1 : Nat) : Int)] [(34, I6 ((aq + 1 : Nat) : Int)), (36, (Po b 5))] [] 7 1 hS (.cons (hB22.cell 5 rfl) (.cons ((by rw [show (↑aq + 1 : Int) = ((aq + 1 : Nat) : Int) from by omega]; exact as_i64 (by omega))) .nil)) fun a hS => eff_store ww (r := 0) (b := b) (off := 5) (vs := [I6 ((aq + 1 : Nat) : Int)]) hS (by kernel_rfl) hB22 (by simp) fun a w25 hw26 hS => ?_
   have hB27 : Blk w25 b 58 (#[S.lv, S.nv, I6 S.st, S.pv, pv, I6 ((aq + 1 : Nat) : Int), .slice bs n cp, I6 ↑ust]) := by rw [hw26]; exact hB22.upd _ _
   have hE28 : Ext [b] w w25 := by rw [hw26]; exact hE23.updIn (.inl (by simp)) _ _
   refine seg_end <| hK24 _ _ <| sq fun K29 hK29 => sq fun K30 hK30 => rgn 2 <| sd ww [.p, .as (.bool true)] [Value.bool (decide ((r2 : Int) < 0)) = .bool true] [(38, .bool true)] [] 2 0 hS (.cons (as_t (by omega)) .nil) fun a hS => seg_end <| hK30 _ _ ?_
   refine cond_t hS rfl ?_
   refine rgn 4 <| sd ww [.p, .p, .as (I6 ↑k), .p] [Value.int .i64 (IntKind.i64.wrap (r2 + ↑mx)) = I6 ↑k] [(5, I6 ↑k)] [] 4 0 hS (.cons ((by rw [show (r2 + ↑mx : Int) = ↑k from by omega]; exact as_i64 (by omega))) .nil) fun a hS => seg_end <| hK29 _ _ <| sq fun K31 hK31 => rgn 2 <| sd ww [.p, .p] [] [(4, I6 ↑k)] [] 2 0 hS .nil fun a hS => seg_end <| hK31 _ _ <| wpIn_ret ?_
   refine ret1 hS Tryd.results71 rfl ?_
   exact ⟨k, aq + 1, rfl, hkl, by omega, hB27, hE28⟩

end Go.Proofs.YtkkpghlcmcaoiaaDoor
