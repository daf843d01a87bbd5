import Derived.Test.YtkkpghlcmcaoiaaDoorS18
namespace Go.Proofs.YtkkpghlcmcaoiaaDoor
open Go.Vc Go.Gm

theorem has_any {w : World} {v : Value} {n : Nat} {xs : List Nat} (q : Nat) (hv : RdV w 1 v n (ivs xs)) (hn : n ≤ 1048576) :
  Calls Tryd.prog 29 #[v, I6 ↑q] w fun e w' => e = .returned (.bool (decide (q ∈ xs))) ∧ Ext [] w w' := by
 have hlx : xs.length = n := by have := hv.len; rw [ivs_len] at this; omega
 refine calls_body 18 [(0, v), (1, I6 ↑q)] Tryd.func29 rfl (by kernel_rfl) (by kernel_rfl) (by kernel_rfl) fun a hS => ?_
 have hE0 : Ext [] w w := Ext.refl _ _
 refine sq fun K1 hK1 => rgn 1 <| sg ww [.p] [] [(0, v), (1, I6 ↑q), (4, .bool false)] 1 0 hS .nil fun a hS => seg_end <| hK1 _ _ <| sq fun K2 hK2 => sq fun K3 hK3 => rgn 1 <| sd ww [.p] [] [(5, I6 0)] [] 1 0 hS .nil fun a hS => seg_end <| hK3 _ _ <| wpIn_block ?_
 refine loop_ghost (fun (i : Nat) a' w' => St 18 [] [(0, v), (1, I6 ↑q), (5, I6 ↑i)] a' ∧ Ext [] w w' ∧ i ≤ n ∧ q ∉ xs.take i) (fun (i : Nat) => n - i) 0 ⟨hS.keepTo [0, 1, 5] (by kernel_rfl), hE0, by omega, by simp⟩ ?_
 rintro i a wl4 ⟨hS, hXl4, hi, ht⟩
 refine sq fun K5 hK5 => sq fun K6 hK6 => rgn 4 <| sd ww [.p, .p, .run (I6 ↑n), .p] [Ru Tryd.prog (vS (Builtin.len_ #[51] 3 #[v])) (I6 ↑n) wl4] [(9, .bool (decide ((↑i : Int) < ↑n)))] [] 4 0 hS (.cons (run_len_rd (e := 3) hv (by kernel_rfl)) .nil) fun a hS => seg_end <| hK6 _ _ ?_
 refine cond_b hS rfl (fun hb7 => ?_) (fun hb7 => ?_)
 ·
  replace hb7 := of_decide_eq_true hb7
  obtain ⟨x, hx⟩ : ∃ x, xs[i]? = some x := ⟨_, List.getElem?_eq_getElem (by omega)⟩
  refine wpIn_skip <| hK5 _ _ <| sq fun K8 hK8 => wpIn_block <| sq fun K9 hK9 => ?_
  rcases (show (x = q) ∨ (¬x = q) from by omega) with h2 | h2
  ·
   refine rgn 6 <| sd ww [.p, .p, .run ((Po (bof v) (oof v + i * 1))), .ld (I6 ↑x), .p, .as (.bool true)] [Ru Tryd.prog (vS (Instr.indexAt 51 (v) (I6 ↑i))) ((Po (bof v) (oof v + i * 1))) wl4, wl4.cell? ⟨bof v, oof v + i * 1, none⟩ = some (I6 ↑x), Value.bool (((↑x : Int) == ↑q)) = .bool true] [(17, .bool true)] [] 6 0 hS (.cons (ix_rd (e := 3) (j := i) hv (by kernel_rfl) (by kernel_rfl) rfl (by omega)) (.cons ((hv.ext0 hXl4).cellAt (i * 1) (by omega) (ivs_at' hx)) (.cons (as_eq_t (by omega)) .nil))) fun a hS => seg_end <| hK9 _ _ ?_
   refine cond_t hS rfl ?_
   refine sq fun K10 hK10 => rgn 1 <| sd ww [.p] [] [(4, .bool true)] [] 1 0 hS .nil fun a hS => seg_end <| hK10 _ _ <| wpIn_ret <| inBlock_ret <| then_ret <| then_ret <| inBlock_ret <| then_ret ?_
   refine ret1 hS Tryd.results29 rfl ?_
   exact ⟨by rw [decide_eq_true (by rw [← h2]; exact List.mem_of_getElem? hx)], hXl4⟩
  ·
   refine rgn 6 <| sd ww [.p, .p, .run ((Po (bof v) (oof v + i * 1))), .ld (I6 ↑x), .p, .as (.bool false)] [Ru Tryd.prog (vS (Instr.indexAt 51 (v) (I6 ↑i))) ((Po (bof v) (oof v + i * 1))) wl4, wl4.cell? ⟨bof v, oof v + i * 1, none⟩ = some (I6 ↑x), Value.bool (((↑x : Int) == ↑q)) = .bool false] [(17, .bool false)] [] 6 0 hS (.cons (ix_rd (e := 3) (j := i) hv (by kernel_rfl) (by kernel_rfl) rfl (by omega)) (.cons ((hv.ext0 hXl4).cellAt (i * 1) (by omega) (ivs_at' hx)) (.cons (as_eq_f (by omega)) .nil))) fun a hS => seg_end <| hK9 _ _ ?_
   refine cond_f hS rfl ?_
   refine wpIn_skip <| inBlock_normal <| hK8 _ _ <| rgn 3 <| sd ww [.p, .as (I6 (↑i + 1)), .p] [Value.int .i64 (IntKind.i64.wrap (↑i + 1)) = I6 (↑i + 1)] [(5, I6 (↑i + 1))] [] 3 0 hS (.cons (as_i64 (by omega)) .nil) fun a hS => seg_end ?_
   exact ⟨i + 1, ⟨hS.kp [(0, v), (1, I6 ↑q), (5, I6 (↑i + 1))], hXl4, by omega, fun h => by
    rw [List.take_add_one, hx] at h
    rcases List.mem_append.1 h with h | h
    ·exact ht h
    ·simp at h; exact h2 h.symm⟩, by omega⟩
 ·
  replace hb7 := of_decide_eq_false hb7
  rw [List.take_of_length_le (by omega)] at ht
  refine wpIn_exit <| then_exit <| then_exit <| inBlock_hit <| hK2 _ _ <| sq fun K11 hK11 => rgn 1 <| sd ww [.p] [] [(4, .bool false)] [] 1 0 hS .nil fun a hS => seg_end <| hK11 _ _ <| wpIn_ret ?_
  refine ret1 hS Tryd.results29 rfl ?_
  exact ⟨by rw [decide_eq_false ht], hXl4⟩

theorem tk_step {xs ys : List Nat} {i x y : Nat} (h : xs.take i = ys.take i) (hx : xs[i]? = some x) (hy : ys[i]? = some y) (e : x = y) : xs.take (i + 1) = ys.take (i + 1) := by
 rw [List.take_add_one, List.take_add_one, h, hx, hy, e]
theorem lex_step : ∀ {xs ys : List Nat} {i x y : Nat}, xs.take i = ys.take i → xs[i]? = some x → ys[i]? = some y → x ≠ y → (lex xs ys ↔ x < y)
 | [], _, _, _, _, _, h, _, _ => by simp at h
 | _ :: _, [], _, _, _, _, _, h, _ => by simp at h
 | a :: xs, b :: ys, 0, x, y, _, h1, h2, h3 => by
  simp only [List.getElem?_cons_zero, Option.some.injEq] at h1 h2
  subst h1; subst h2
  simp only [lex]
  omega
 | a :: xs, b :: ys, i + 1, x, y, h, h1, h2, h3 => by
  simp only [List.take_succ_cons, List.cons.injEq] at h
  simp only [List.getElem?_cons_succ] at h1 h2
  have := lex_step h.2 h1 h2 h3
  simp only [lex, h.1, Nat.lt_irrefl, true_and, false_or]
  exact this
theorem less_step {xs ys : List Nat} {i x y : Nat} (hl : xs.length = ys.length) (h : xs.take i = ys.take i) (hx : xs[i]? = some x) (hy : ys[i]? = some y) (hn : x ≠ y) : less xs ys ↔ x < y := by
 unfold less
 rw [lex_step h hx hy hn]
 omega

theorem Less_any {w : World} {v u : Value} {n m : Nat} {xs ys : List Nat} (hv : RdV w 1 v n (ivs xs)) (hu : RdV w 1 u m (ivs ys)) (hn : n ≤ 1048576) :
  Calls Tryd.prog 30 #[v, u] w fun e w' => e = .returned (.bool (decide (less xs ys))) ∧ Ext [] w w' := by
 have hlx : xs.length = n := by have := hv.len; rw [ivs_len] at this; omega
 have hly : ys.length = m := by have := hu.len; rw [ivs_len] at this; omega
 refine calls_body 40 [(0, v), (1, u)] Tryd.func30 rfl (by kernel_rfl) (by kernel_rfl) (by kernel_rfl) fun a hS => ?_
 have hE0 : Ext [] w w := Ext.refl _ _
 refine sq fun K1 hK1 => rgn 1 <| sg ww [.p] [] [(0, v), (1, u), (4, .bool false)] 1 0 hS .nil fun a hS => seg_end <| hK1 _ _ <| sq fun K2 hK2 => sq fun K3 hK3 => ?_
 rcases (show (¬n = m) ∨ (n = m) from by omega) with h1 | h1
 ·
  refine rgn 5 <| sd ww [.p, .run (I6 ↑n), .p, .run (I6 ↑m), .as (.bool true)] [Ru Tryd.prog (vS (Builtin.len_ #[51] 3 #[v])) (I6 ↑n) w, Ru Tryd.prog (vS (Builtin.len_ #[51] 3 #[u])) (I6 ↑m) w, Value.bool (((↑n : Int) != ↑m)) = .bool true] [(10, .bool true)] [] 5 0 hS (.cons (run_len_rd (e := 3) hv (by kernel_rfl)) (.cons (run_len_rd (e := 3) hu (by kernel_rfl)) (.cons (as_ne_t (by omega)) .nil))) fun a hS => seg_end <| hK3 _ _ ?_
  refine cond_t hS rfl ?_
  refine sq fun K4 hK4 => rgn 6 <| sd ww [.p, .run (I6 ↑n), .p, .run (I6 ↑m), .p, .p] [Ru Tryd.prog (vS (Builtin.len_ #[51] 3 #[v])) (I6 ↑n) w, Ru Tryd.prog (vS (Builtin.len_ #[51] 3 #[u])) (I6 ↑m) w] [(4, .bool (decide ((↑n : Int) < ↑m)))] [] 6 0 hS (.cons (run_len_rd (e := 3) hv (by kernel_rfl)) (.cons (run_len_rd (e := 3) hu (by kernel_rfl)) .nil)) fun a hS => seg_end <| hK4 _ _ <| wpIn_ret <| then_ret ?_
  refine ret1 hS Tryd.results30 rfl ?_
  exact ⟨by rw [show decide ((n : Int) < m) = decide (less xs ys) from decide_eq_decide.2 ⟨fun h => .inl (by omega), fun h => by rcases h with h | h <;> omega⟩], hE0⟩
 ·
  refine rgn 5 <| sd ww [.p, .run (I6 ↑n), .p, .run (I6 ↑m), .as (.bool false)] [Ru Tryd.prog (vS (Builtin.len_ #[51] 3 #[v])) (I6 ↑n) w, Ru Tryd.prog (vS (Builtin.len_ #[51] 3 #[u])) (I6 ↑m) w, Value.bool (((↑n : Int) != ↑m)) = .bool false] [(10, .bool false)] [] 5 0 hS (.cons (run_len_rd (e := 3) hv (by kernel_rfl)) (.cons (run_len_rd (e := 3) hu (by kernel_rfl)) (.cons (as_ne_f (by omega)) .nil))) fun a hS => seg_end <| hK3 _ _ ?_
  refine cond_f hS rfl ?_
  refine wpIn_skip <| hK2 _ _ <| sq fun K5 hK5 => sq fun K6 hK6 => rgn 1 <| sd ww [.p] [] [(5, I6 0)] [] 1 0 hS .nil fun a hS => seg_end <| hK6 _ _ <| wpIn_block ?_
  refine loop_ghost (fun (i : Nat) a' w' => St 40 [] [(0, v), (1, u), (5, I6 ↑i)] a' ∧ Ext [] w w' ∧ i ≤ n ∧ xs.take i = ys.take i) (fun (i : Nat) => n - i) 0 ⟨hS.keepTo [0, 1, 5] (by kernel_rfl), hE0, by omega, rfl⟩ ?_
  rintro i a wl7 ⟨hS, hXl7, hi, ht⟩
  refine sq fun K8 hK8 => sq fun K9 hK9 => rgn 4 <| sd ww [.p, .p, .run (I6 ↑n), .p] [Ru Tryd.prog (vS (Builtin.len_ #[51] 3 #[v])) (I6 ↑n) wl7] [(19, .bool (decide ((↑i : Int) < ↑n)))] [] 4 0 hS (.cons (run_len_rd (e := 3) hv (by kernel_rfl)) .nil) fun a hS => seg_end <| hK9 _ _ ?_
  refine cond_b hS rfl (fun hb10 => ?_) (fun hb10 => ?_)
  ·
   replace hb10 := of_decide_eq_true hb10
   obtain ⟨x, hx⟩ : ∃ x, xs[i]? = some x := ⟨_, List.getElem?_eq_getElem (by omega)⟩
   obtain ⟨y, hy⟩ : ∃ y, ys[i]? = some y := ⟨_, List.getElem?_eq_getElem (by omega)⟩
   refine wpIn_skip <| hK8 _ _ <| sq fun K11 hK11 => wpIn_block <| sq fun K12 hK12 => ?_
   rcases (show (¬x = y) ∨ (x = y) from by omega) with h2 | h2
   ·
    refine region_fn2 ww [.q .p, .q .p, .q (.run ((Po (bof v) (oof v + i * 1)))), .q (.ld (I6 ↑x)), .q .p, .q .p, .q (.run ((Po (bof u) (oof u + i * 1)))), .q (.ld (I6 ↑y)), .q (.as (.bool true))] [0, 0, 0, 0, 0, 0, 0, 0, 0] [0, 0, 0, 0, 0, 0, 0, 0, 0] [0, 0, 3, 7, 0, 0, 48, 112, 255] [] 0 ([(0, v), (1, u), (5, I6 ↑i), (19, .bool (decide ((↑i : Int) < ↑n))), (22, v), (23, I6 ↑i), (24, (Po (bof v) (oof v + i * 1))), (25, I6 ↑x), (26, u), (27, I6 ↑i), (28, (Po (bof u) (oof u + i * 1))), (29, I6 ↑y), (30, .bool true)]) [wl7.drew] wl7.drew (fun w' => [(2, [Ru Tryd.prog (vS (Instr.indexAt 51 (v) (I6 ↑i))) ((Po (bof v) (oof v + i * 1))) w']), (3, [w'.cell? ⟨bof v, oof v + i * 1, none⟩ = some (I6 ↑x)]), (6, [Ru Tryd.prog (vS (Instr.indexAt 51 (u) (I6 ↑i))) ((Po (bof u) (oof u + i * 1))) w']), (7, [w'.cell? ⟨bof u, oof u + i * 1, none⟩ = some (I6 ↑y)]), (8, [Value.bool (((↑x : Int) != ↑y)) = .bool true])]) [0, 1, 5, 19] [] hS (by kernel_rfl) (by kernel_rfl) (by kernel_rfl) (by kernel_rfl) (fun _ => by kernel_rfl) (by kernel_rfl) (by kernel_rfl) (by kernel_rfl) ?_ ?_ ?_
    ·intro e w' hw
     refine (.cons ?_ (.cons ?_ (.cons ?_ (.cons ?_ (.cons ?_ .nil)))))
     ·exact fun _ _ => (.cons (ix_rd (e := 3) (j := i) hv (by kernel_rfl) (by kernel_rfl) rfl (by omega)) .nil)
     ·intro h1 h2
      obtain rfl : e = 0 := Nat.le_antisymm h2 h1
      obtain rfl : w' = wl7.drew := hw.trans (by kernel_rfl)
      exact (.cons ((hv.ext0 (hXl7.trans0 (by first | exact (Ext.refl [] _).drew | exact Ext.refl [] _))).cellAt (i * 1) (by omega) (ivs_at' hx)) .nil)
     ·exact fun _ _ => (.cons (ix_rd (e := 3) (j := i) hu (by kernel_rfl) (by kernel_rfl) rfl (by omega)) .nil)
     ·intro h1 h2
      obtain rfl : e = 0 := Nat.le_antisymm h2 h1
      obtain rfl : w' = wl7.drew := hw.trans (by kernel_rfl)
      exact (.cons ((hu.ext0 (hXl7.trans0 (by first | exact (Ext.refl [] _).drew | exact Ext.refl [] _))).cellAt (i * 1) (by omega) (ivs_at' hy)) .nil)
     ·exact fun _ _ => (.cons (as_ne_t (by omega)) .nil)
    ·refine .nil
    rintro a w14 hS hw15
    replace hw15 : w14 = wl7.drew := hw15.trans (by kernel_rfl)
    have hE16 : Ext [] w w14 := by rw [hw15]; exact hXl7.drew
    replace hS := hS.kp [(0, v), (1, u), (5, I6 ↑i), (19, .bool (decide ((↑i : Int) < ↑n))), (30, .bool true)]
    refine hK12 _ _ ?_
    refine cond_t hS rfl ?_
    refine sq fun K17 hK17 => ?_
    refine region_fn2 ww [.q .p, .q .p, .q (.run ((Po (bof v) (oof v + i * 1)))), .q (.ld (I6 ↑x)), .q .p, .q .p, .q (.run ((Po (bof u) (oof u + i * 1)))), .q (.ld (I6 ↑y)), .q .p, .q .p] [0, 0, 0, 0, 0, 0, 0, 0, 0, 0] [0, 0, 0, 0, 0, 0, 0, 0, 0, 0] [0, 0, 3, 7, 0, 0, 48, 112, 255, 511] [] 0 ([(0, v), (1, u), (5, I6 ↑i), (19, .bool (decide ((↑i : Int) < ↑n))), (30, .bool true), (31, v), (32, I6 ↑i), (33, (Po (bof v) (oof v + i * 1))), (34, I6 ↑x), (35, u), (36, I6 ↑i), (37, (Po (bof u) (oof u + i * 1))), (38, I6 ↑y), (39, .bool (decide ((↑x : Int) < ↑y))), (4, .bool (decide ((↑x : Int) < ↑y)))]) [w14.drew] w14.drew (fun w' => [(2, [Ru Tryd.prog (vS (Instr.indexAt 51 (v) (I6 ↑i))) ((Po (bof v) (oof v + i * 1))) w']), (3, [w'.cell? ⟨bof v, oof v + i * 1, none⟩ = some (I6 ↑x)]), (6, [Ru Tryd.prog (vS (Instr.indexAt 51 (u) (I6 ↑i))) ((Po (bof u) (oof u + i * 1))) w']), (7, [w'.cell? ⟨bof u, oof u + i * 1, none⟩ = some (I6 ↑y)])]) [0, 1, 5, 19, 30] [] hS (by kernel_rfl) (by kernel_rfl) (by kernel_rfl) (by kernel_rfl) (fun _ => by kernel_rfl) (by kernel_rfl) (by kernel_rfl) (by kernel_rfl) ?_ ?_ ?_
    ·intro e w' hw
     refine (.cons ?_ (.cons ?_ (.cons ?_ (.cons ?_ .nil))))
     ·exact fun _ _ => (.cons (ix_rd (e := 3) (j := i) hv (by kernel_rfl) (by kernel_rfl) rfl (by omega)) .nil)
     ·intro h1 h2
      obtain rfl : e = 0 := Nat.le_antisymm h2 h1
      obtain rfl : w' = w14.drew := hw.trans (by kernel_rfl)
      exact (.cons ((hv.ext0 (hE16.trans0 (by first | exact (Ext.refl [] _).drew | exact Ext.refl [] _))).cellAt (i * 1) (by omega) (ivs_at' hx)) .nil)
     ·exact fun _ _ => (.cons (ix_rd (e := 3) (j := i) hu (by kernel_rfl) (by kernel_rfl) rfl (by omega)) .nil)
     ·intro h1 h2
      obtain rfl : e = 0 := Nat.le_antisymm h2 h1
      obtain rfl : w' = w14.drew := hw.trans (by kernel_rfl)
      exact (.cons ((hu.ext0 (hE16.trans0 (by first | exact (Ext.refl [] _).drew | exact Ext.refl [] _))).cellAt (i * 1) (by omega) (ivs_at' hy)) .nil)
    ·refine .nil
    rintro a w19 hS hw20
    replace hw20 : w19 = w14.drew := hw20.trans (by kernel_rfl)
    have hE21 : Ext [] w w19 := by rw [hw20]; exact hE16.drew
    replace hS := hS.kp [(0, v), (1, u), (5, I6 ↑i), (19, .bool (decide ((↑i : Int) < ↑n))), (30, .bool true), (4, .bool (decide ((↑x : Int) < ↑y)))]
    refine hK17 _ _ <| wpIn_ret <| inBlock_ret <| then_ret <| then_ret <| inBlock_ret <| then_ret ?_
    refine ret1 hS Tryd.results30 rfl ?_
    exact ⟨by rw [show decide ((x : Int) < y) = decide (less xs ys) from decide_eq_decide.2 (by rw [less_step (by omega) ht hx hy h2]; omega)], hE21⟩
   ·
    refine region_fn2 ww [.q .p, .q .p, .q (.run ((Po (bof v) (oof v + i * 1)))), .q (.ld (I6 ↑x)), .q .p, .q .p, .q (.run ((Po (bof u) (oof u + i * 1)))), .q (.ld (I6 ↑y)), .q (.as (.bool false))] [0, 0, 0, 0, 0, 0, 0, 0, 0] [0, 0, 0, 0, 0, 0, 0, 0, 0] [0, 0, 3, 7, 0, 0, 48, 112, 255] [] 0 ([(0, v), (1, u), (5, I6 ↑i), (19, .bool (decide ((↑i : Int) < ↑n))), (22, v), (23, I6 ↑i), (24, (Po (bof v) (oof v + i * 1))), (25, I6 ↑x), (26, u), (27, I6 ↑i), (28, (Po (bof u) (oof u + i * 1))), (29, I6 ↑y), (30, .bool false)]) [wl7.drew] wl7.drew (fun w' => [(2, [Ru Tryd.prog (vS (Instr.indexAt 51 (v) (I6 ↑i))) ((Po (bof v) (oof v + i * 1))) w']), (3, [w'.cell? ⟨bof v, oof v + i * 1, none⟩ = some (I6 ↑x)]), (6, [Ru Tryd.prog (vS (Instr.indexAt 51 (u) (I6 ↑i))) ((Po (bof u) (oof u + i * 1))) w']), (7, [w'.cell? ⟨bof u, oof u + i * 1, none⟩ = some (I6 ↑y)]), (8, [Value.bool (((↑x : Int) != ↑y)) = .bool false])]) [0, 1, 5, 19] [] hS (by kernel_rfl) (by kernel_rfl) (by kernel_rfl) (by kernel_rfl) (fun _ => by kernel_rfl) (by kernel_rfl) (by kernel_rfl) (by kernel_rfl) ?_ ?_ ?_
    ·intro e w' hw
     refine (.cons ?_ (.cons ?_ (.cons ?_ (.cons ?_ (.cons ?_ .nil)))))
     ·exact fun _ _ => (.cons (ix_rd (e := 3) (j := i) hv (by kernel_rfl) (by kernel_rfl) rfl (by omega)) .nil)
     ·intro h1 h2
      obtain rfl : e = 0 := Nat.le_antisymm h2 h1
      obtain rfl : w' = wl7.drew := hw.trans (by kernel_rfl)
      exact (.cons ((hv.ext0 (hXl7.trans0 (by first | exact (Ext.refl [] _).drew | exact Ext.refl [] _))).cellAt (i * 1) (by omega) (ivs_at' hx)) .nil)
     ·exact fun _ _ => (.cons (ix_rd (e := 3) (j := i) hu (by kernel_rfl) (by kernel_rfl) rfl (by omega)) .nil)
     ·intro h1 h2
      obtain rfl : e = 0 := Nat.le_antisymm h2 h1
      obtain rfl : w' = wl7.drew := hw.trans (by kernel_rfl)
      exact (.cons ((hu.ext0 (hXl7.trans0 (by first | exact (Ext.refl [] _).drew | exact Ext.refl [] _))).cellAt (i * 1) (by omega) (ivs_at' hy)) .nil)
     ·exact fun _ _ => (.cons (as_ne_f (by omega)) .nil)
    ·refine .nil
    rintro a w23 hS hw24
    replace hw24 : w23 = wl7.drew := hw24.trans (by kernel_rfl)
    have hE25 : Ext [] w w23 := by rw [hw24]; exact hXl7.drew
    replace hS := hS.kp [(0, v), (1, u), (5, I6 ↑i), (19, .bool (decide ((↑i : Int) < ↑n))), (30, .bool false)]
    refine hK12 _ _ ?_
    refine cond_f hS rfl ?_
    refine wpIn_skip <| inBlock_normal <| hK11 _ _ <| rgn 3 <| sd ww [.p, .as (I6 (↑i + 1)), .p] [Value.int .i64 (IntKind.i64.wrap (↑i + 1)) = I6 (↑i + 1)] [(5, I6 (↑i + 1))] [] 3 0 hS (.cons (as_i64 (by omega)) .nil) fun a hS => seg_end ?_
    exact ⟨i + 1, ⟨hS.kp [(0, v), (1, u), (5, I6 (↑i + 1))], hE25, by omega, tk_step ht hx hy h2⟩, by omega⟩
  ·
   replace hb10 := of_decide_eq_false hb10
   rw [List.take_of_length_le (by omega), List.take_of_length_le (by omega)] at ht
   refine wpIn_exit <| then_exit <| then_exit <| inBlock_hit <| hK5 _ _ <| sq fun K26 hK26 => rgn 1 <| sd ww [.p] [] [(4, .bool false)] [] 1 0 hS .nil fun a hS => seg_end <| hK26 _ _ <| wpIn_ret ?_
   refine ret1 hS Tryd.results30 rfl ?_
   exact ⟨by rw [decide_eq_false (by rw [ht]; exact less_irr _)], hXl7⟩

end Go.Proofs.YtkkpghlcmcaoiaaDoor
