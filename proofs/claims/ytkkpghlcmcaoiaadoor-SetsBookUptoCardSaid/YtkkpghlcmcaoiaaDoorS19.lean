import Derived.Test.YtkkpghlcmcaoiaaDoorS18
namespace Go.Proofs.YtkkpghlcmcaoiaaDoor
open Go.Vc Go.Gm
theorem SameP.step {α : Type} {xs ys : List α} {i : Nat} {x y : α} (h : xs.take i = ys.take i) (hx : xs[i]? = some x) (hy : ys[i]? = some y) (e : x = y) : xs.take (i + 1) = ys.take (i + 1) := by
 rw [List.take_add_one, List.take_add_one, h, hx, hy, e]
structure RdL (w : World) (v : Value) (n : Nat) (ls : List (List Nat)) : Prop where
 r : ∃ vs : List Value, RdV w 1 v n vs ∧ vs.length = n ∧ ∀ (k : Nat) (l : List Nat), ls[k]? = some l → ∃ u, vs[k]? = some u ∧ RdV w 1 u l.length (ivs l)
 len : ls.length = n
 max : ∀ l ∈ ls, l.length ≤ 1048576
theorem RdL.ext0 {w w' : World} {v : Value} {n : Nat} {ls : List (List Nat)} (h : RdL w v n ls) (hE : Ext [] w w') : RdL w' v n ls := by
 obtain ⟨⟨vs, h1, h2, h3⟩, h4, h5⟩ := h
 refine ⟨⟨vs, h1.ext0 hE, h2, fun k l hl => ?_⟩, h4, h5⟩
 obtain ⟨u, h6, h7⟩ := h3 k l hl
 exact ⟨u, h6, h7.ext0 hE⟩
theorem Lsts.rdl {N : Nat} {w : World} {bs : Option Addr} {n cp : Nat} {L : List Rw} {ls : List (List Nat)} (h : Lsts N w bs n cp L ls) (hm : ∀ l ∈ ls, l.length ≤ 1048576) : RdL w (.slice bs n cp) n ls := by
 have hl := h.len
 refine ⟨⟨L.map Rw.v, h.own.rd, by rw [List.length_map]; exact hl.1, fun k l hk => ?_⟩, hl.2, hm⟩
 obtain ⟨x, hx⟩ : ∃ x, L[k]? = some x := ⟨_, List.getElem?_eq_getElem (by have := (List.getElem?_eq_some_iff.1 hk).1; omega)⟩
 have he := congrArg (fun l => l[k]?) h.is
 simp only [List.getElem?_map, hx, hk, Option.map_some, Option.some.injEq, Prod.mk.injEq] at he
 refine ⟨x.v, by rw [List.getElem?_map, hx]; rfl, ?_⟩
 have := (h.fam.own k x hx).rd
 rw [he.1, he.2] at this
 exact this
theorem SameInts_any {w : World} {v u : Value} {n m : Nat} {xs ys : List Nat} (hv : RdV w 1 v n (ivs xs)) (hu : RdV w 1 u m (ivs ys)) (hn : n ≤ 1048576) :
  Calls Tryd.prog 35 #[v, u] w fun e w' => e = .returned (.bool (decide (xs = ys))) ∧ Ext [] w w' := by
 have hlx : xs.length = n := by have := hv.len; rw [ivs_len] at this; omega
 have hly : ys.length = m := by have := hu.len; rw [ivs_len] at this; omega
 refine cbd 26 [(0, v), (1, u)] Tryd.func35 rfl fun a hS => ?_
 have hE0 : Ext [] w w := Ext.refl _ _
 refine sq fun K1 hK1 => rgn 1 <| sg ww [.p] [] [(0, v), (1, u), (4, .bool false)] 1 0 hS .nil fun a hS => sge hK1 <| sq fun K2 hK2 => sq fun K3 hK3 => ?_
 rcases (show (¬n = m) ∨ (n = m) from by omega) with h1 | h1
 ·
  refine rgn 5 <| sd ww [.p, .run (I6 n), .p, .run (I6 m), .as (.bool true)] [Rv (Builtin.len_ #[51] 3 #[v]) (I6 n) w, Rv (Builtin.len_ #[51] 3 #[u]) (I6 m) w, Value.bool (((↑n : Int) != ↑m)) = .bool true] [(10, .bool true)] [] 5 0 hS (.c (rlr 3 hv) (.c (rlr 3 hu) (.c (as_ne_t (by omega)) .nil))) fun a hS => sge hK3 ?_
  refine cond_t hS rfl ?_
  refine sdq 1 [.p] [] [] [] hS .nil fun a hS => wpIn_ret <| then_ret ?_
  refine ret1 hS Tryd.results35 rfl ?_
  exact ⟨by rw [decide_eq_false (fun h => by rw [h] at hlx; omega)], hE0⟩
 ·
  refine rgn 5 <| sd ww [.p, .run (I6 n), .p, .run (I6 m), .as (.bool false)] [Rv (Builtin.len_ #[51] 3 #[v]) (I6 n) w, Rv (Builtin.len_ #[51] 3 #[u]) (I6 m) w, Value.bool (((↑n : Int) != ↑m)) = .bool false] [(10, .bool false)] [] 5 0 hS (.c (rlr 3 hv) (.c (rlr 3 hu) (.c (as_ne_f (by omega)) .nil))) fun a hS => sge hK3 ?_
  refine cond_f hS rfl ?_
  refine wpIn_skip <| hK2 _ _ <| sq fun K5 hK5 => sdq 1 [.p] [] [(5, I6 0)] [] hS .nil fun a hS => wpIn_block ?_
  refine loop_ghost (fun (i : Nat) a' w' => St 26 [] [(0, v), (1, u), (5, I6 i)] a' ∧ Ext [] w w' ∧ i ≤ n ∧ xs.take i = ys.take i) (fun (i : Nat) => n - i) 0 ⟨hS.keepTo [0, 1, 5] (by kernel_rfl), hE0, by omega, rfl⟩ ?_
  rintro i a wl7 ⟨hS, hXl7, hi, ht⟩
  refine sq fun K8 hK8 => sdq 4 [.p, .p, .run (I6 n), .p] [Rv (Builtin.len_ #[51] 3 #[v]) (I6 n) wl7] [(14, .bool (decide ((↑i : Int) < ↑n)))] [] hS (.c (rlr 3 hv) .nil) fun a hS => ?_
  refine cond_b hS rfl (fun hb10 => ?_) (fun hb10 => ?_)
  ·
   replace hb10 := of_decide_eq_true hb10
   obtain ⟨x, hx⟩ : ∃ x, xs[i]? = some x := gE
   obtain ⟨y, hy⟩ : ∃ y, ys[i]? = some y := gE
   refine wpIn_skip <| hK8 _ _ <| sq fun K11 hK11 => wpIn_block <| sq fun K12 hK12 => ?_
   rcases (show (¬x = y) ∨ (x = y) from by omega) with h2 | h2
   ·
    refine fn3 [.q .p, .q .p, .q (.run ((Po (bof v) (oof v + i * 1)))), .q (.ld (I6 x)), .q .p, .q .p, .q (.run ((Po (bof u) (oof u + i * 1)))), .q (.ld (I6 y)), .q (.as (.bool true))] [0, 0, 0, 0, 0, 0, 0, 0, 0] [0, 0, 0, 0, 0, 0, 0, 0, 0] [0, 0, 3, 7, 0, 0, 48, 112, 255] [] 0 ([(0, v), (1, u), (5, I6 i), (14, .bool (decide ((↑i : Int) < ↑n))), (17, v), (18, I6 i), (19, (Po (bof v) (oof v + i * 1))), (20, I6 x), (21, u), (22, I6 i), (23, (Po (bof u) (oof u + i * 1))), (24, I6 y), (25, .bool true)]) [wl7.drew] wl7.drew (fun w' => [(2, [Rv (Instr.indexAt 51 (v) (I6 i)) ((Po (bof v) (oof v + i * 1))) w']), (3, [w'.cell? ⟨bof v, oof v + i * 1, none⟩ = some (I6 x)]), (6, [Rv (Instr.indexAt 51 (u) (I6 i)) ((Po (bof u) (oof u + i * 1))) w']), (7, [w'.cell? ⟨bof u, oof u + i * 1, none⟩ = some (I6 y)]), (8, [Value.bool (((↑x : Int) != ↑y)) = .bool true])]) [0, 1, 5, 14] [] hS (fun _ => by kernel_rfl) ?_ ?_ ?_
    ·intro e w' hw
     refine (.c ?_ (.c ?_ (.c ?_ (.c ?_ (.c ?_ .nil)))))
     ·exact fun _ _ => (.c (ixr 3 i hv) .nil)
     ·intro h1 h2
      obtain rfl := Nat.le_antisymm h2 h1
      obtain rfl : w' = wl7.drew := hw.trans (by kernel_rfl)
      exact (.c ((hv.ext0 (hXl7.trans0 (by first | exact (Ext.refl [] _).drew | exact Ext.refl [] _))).cellAt (i * 1) (by omega) (ivs_at' hx)) .nil)
     ·exact fun _ _ => (.c (ixr 3 i hu) .nil)
     ·intro h1 h2
      obtain rfl := Nat.le_antisymm h2 h1
      obtain rfl : w' = wl7.drew := hw.trans (by kernel_rfl)
      exact (.c ((hu.ext0 (hXl7.trans0 (by first | exact (Ext.refl [] _).drew | exact Ext.refl [] _))).cellAt (i * 1) (by omega) (ivs_at' hy)) .nil)
     ·exact fun _ _ => (.c (as_ne_t (by omega)) .nil)
    ·refine .nil
    rintro a w14 hS hw15
    replace hw15 : w14 = wl7.drew := hw15.trans (by kernel_rfl)
    have hE16 : Ext [] w w14 := by rw [hw15]; exact hXl7.drew
    replace hS := hS.kp [(0, v), (1, u), (5, I6 i), (14, .bool (decide ((↑i : Int) < ↑n))), (25, .bool true)]
    refine hK12 _ _ ?_
    refine cond_t hS rfl ?_
    refine sdq 1 [.p] [] [(4, .bool false)] [] hS .nil fun a hS => wpIn_ret <| inBlock_ret <| then_ret <| then_ret <| inBlock_ret <| then_ret ?_
    refine ret1 hS Tryd.results35 rfl ?_
    exact ⟨by rw [decide_eq_false (fun h => by rw [h, hy] at hx; cases hx; exact h2 rfl)], hE16⟩
   ·
    refine fn3 [.q .p, .q .p, .q (.run ((Po (bof v) (oof v + i * 1)))), .q (.ld (I6 x)), .q .p, .q .p, .q (.run ((Po (bof u) (oof u + i * 1)))), .q (.ld (I6 y)), .q (.as (.bool false))] [0, 0, 0, 0, 0, 0, 0, 0, 0] [0, 0, 0, 0, 0, 0, 0, 0, 0] [0, 0, 3, 7, 0, 0, 48, 112, 255] [] 0 ([(0, v), (1, u), (5, I6 i), (14, .bool (decide ((↑i : Int) < ↑n))), (17, v), (18, I6 i), (19, (Po (bof v) (oof v + i * 1))), (20, I6 x), (21, u), (22, I6 i), (23, (Po (bof u) (oof u + i * 1))), (24, I6 y), (25, .bool false)]) [wl7.drew] wl7.drew (fun w' => [(2, [Rv (Instr.indexAt 51 (v) (I6 i)) ((Po (bof v) (oof v + i * 1))) w']), (3, [w'.cell? ⟨bof v, oof v + i * 1, none⟩ = some (I6 x)]), (6, [Rv (Instr.indexAt 51 (u) (I6 i)) ((Po (bof u) (oof u + i * 1))) w']), (7, [w'.cell? ⟨bof u, oof u + i * 1, none⟩ = some (I6 y)]), (8, [Value.bool (((↑x : Int) != ↑y)) = .bool false])]) [0, 1, 5, 14] [] hS (fun _ => by kernel_rfl) ?_ ?_ ?_
    ·intro e w' hw
     refine (.c ?_ (.c ?_ (.c ?_ (.c ?_ (.c ?_ .nil)))))
     ·exact fun _ _ => (.c (ixr 3 i hv) .nil)
     ·intro h1 h2
      obtain rfl := Nat.le_antisymm h2 h1
      obtain rfl : w' = wl7.drew := hw.trans (by kernel_rfl)
      exact (.c ((hv.ext0 (hXl7.trans0 (by first | exact (Ext.refl [] _).drew | exact Ext.refl [] _))).cellAt (i * 1) (by omega) (ivs_at' hx)) .nil)
     ·exact fun _ _ => (.c (ixr 3 i hu) .nil)
     ·intro h1 h2
      obtain rfl := Nat.le_antisymm h2 h1
      obtain rfl : w' = wl7.drew := hw.trans (by kernel_rfl)
      exact (.c ((hu.ext0 (hXl7.trans0 (by first | exact (Ext.refl [] _).drew | exact Ext.refl [] _))).cellAt (i * 1) (by omega) (ivs_at' hy)) .nil)
     ·exact fun _ _ => (.c (as_ne_f (by omega)) .nil)
    ·refine .nil
    rintro a w19 hS hw20
    replace hw20 : w19 = wl7.drew := hw20.trans (by kernel_rfl)
    have hE21 : Ext [] w w19 := by rw [hw20]; exact hXl7.drew
    replace hS := hS.kp [(0, v), (1, u), (5, I6 i), (14, .bool (decide ((↑i : Int) < ↑n))), (25, .bool false)]
    refine hK12 _ _ ?_
    refine cond_f hS rfl ?_
    refine wpIn_skip <| inBlock_normal <| hK11 _ _ <| rgn 3 <| sd ww [.p, .as (I6 (↑i + 1)), .p] [_] [(5, I6 (↑i + 1))] [] 3 0 hS (as6 (↑i + 1)) fun a hS => seg_end ?_
    exact ⟨i + 1, ⟨hS.kp [(0, v), (1, u), (5, I6 (↑i + 1))], hE21, by omega, SameP.step ht hx hy h2⟩, by omega⟩
  ·
   replace hb10 := of_decide_eq_false hb10
   rw [List.take_of_length_le (by omega), List.take_of_length_le (by omega)] at ht
   refine xt2 <| hK5 _ _ <| sdq 1 [.p] [] [(4, .bool true)] [] hS .nil fun a hS => wpIn_ret ?_
   refine ret1 hS Tryd.results35 rfl ?_
   exact ⟨by rw [decide_eq_true ht], hXl7⟩
theorem SameInts_eq {w : World} {v u : Value} {n m : Nat} {xs : List Nat} (hv : RdV w 1 v n (ivs xs)) (hu : RdV w 1 u m (ivs xs)) (hn : n ≤ 1048576) :
  Calls Tryd.prog 35 #[v, u] w fun e w' => e = .returned (.bool true) ∧ Ext [] w w' := by
 refine (SameInts_any hv hu hn).mono ?_
 rintro e w' ⟨h1, h2⟩
 exact ⟨by rw [h1, decide_eq_true rfl], h2⟩
theorem FirR.max {S : Sp} {ls : List (List Nat)} (h : FirR S ls) : ∀ l ∈ ls, l.length ≤ 1048576 := fun l hl => by
 obtain ⟨fs, rfl, _⟩ := h
 obtain ⟨s, _, rfl⟩ := List.mem_map.1 hl
 have := tls_len s
 omega
theorem FolR.max {S : Sp} {ls : List (List Nat)} (h : FolR S ls) : ∀ l ∈ ls, l.length ≤ 1048576 := fun l hl => by
 obtain ⟨fs, rfl, _⟩ := h
 obtain ⟨s, _, rfl⟩ := List.mem_map.1 hl
 have := tls_len s
 omega
theorem YldR.max {S : Sp} {vs : List Nat} {ls : List (List Nat)} (hL : LenR S vs) (h0 : (fY vs 0).1 = 0) (h : YldR S ls) : ∀ l ∈ ls, l.length ≤ 4096 := fun l hl => by
 obtain ⟨i, hi⟩ := List.getElem?_of_mem hl
 have h1 := h.2 i l hi
 have hlen := hL.len
 have hn := h.1
 obtain ⟨v, hv⟩ : ∃ v, vs[i]? = some v := ⟨_, List.getElem?_eq_getElem (by have := (List.getElem?_eq_some_iff.1 hi).1; omega)⟩
 have h2 := fY_ok.1 h0 v (List.mem_of_getElem? hv)
 have h3 := hL.c.snd i (by rw [vf_at hv]; omega)
 rw [vf_at hv] at h3
 obtain ⟨u, hu, he⟩ := (CN_MN (nl := S.nl)).1 h3
 have := leq_len (h1.2 u hu)
 omega
theorem YoR.max {S : Sp} {k at' : Int} {bs : Option Addr} {m cp : Nat} {L : List Rw} {ls : List (List Nat)} (h : YoR S k at' bs m cp L ls) : ∀ l ∈ ls, l.length ≤ 1048576 := fun l hl => by
 obtain ⟨vs, hL, h | h⟩ := h
 ·rw [h.2.2.2.2.2.2.2] at hl; cases hl
 ·have := YldR.max hL h.2.2.1 h.2.2.2.2 l hl
  omega
theorem sameBools_eq {w : World} {v u : Value} {n : Nat} {bs : List Bool} (hv : RdV w 1 v n (bls bs)) (hu : RdV w 1 u n (bls bs)) (hn : n ≤ 1048576) :
  Calls Tryd.prog 21 #[v, u] w fun e w' => e = .returned (.bool true) ∧ Ext [] w w' := by
 have hlx : bs.length = n := by have := hv.len; rw [bls_len] at this; omega
 refine cbd 26 [(0, v), (1, u)] Tryd.func21 rfl fun a hS => ?_
 have hE0 : Ext [] w w := Ext.refl _ _
 refine sq fun K1 hK1 => rgn 1 <| sg ww [.p] [] [(0, v), (1, u), (4, .bool false)] 1 0 hS .nil fun a hS => sge hK1 <| sq fun K2 hK2 => sdq 5 [.p, .run (I6 n), .p, .run (I6 n), .as (.bool false)] [Rv (Builtin.len_ #[31] 3 #[v]) (I6 n) w, Rv (Builtin.len_ #[31] 3 #[u]) (I6 n) w, Value.bool (((↑n : Int) != ↑n)) = .bool false] [(10, .bool false)] [] hS (.c (rlr 4 hv) (.c (rlr 4 hu) (.c (as_ne_f (rfl)) .nil))) fun a hS => ?_
 refine cond_f hS rfl ?_
 refine wpIn_skip <| hK2 _ _ <| sq fun K4 hK4 => sdq 1 [.p] [] [(5, I6 0)] [] hS .nil fun a hS => wpIn_block ?_
 refine loop_ghost (fun (i : Nat) a' w' => St 26 [] [(0, v), (1, u), (5, I6 i)] a' ∧ Ext [] w w' ∧ i ≤ n) (fun (i : Nat) => n - i) 0 ⟨hS.keepTo [0, 1, 5] (by kernel_rfl), hE0, by omega⟩ ?_
 rintro i a wl6 ⟨hS, hXl6, hi⟩
 refine sq fun K7 hK7 => sdq 4 [.p, .p, .run (I6 n), .p] [Rv (Builtin.len_ #[31] 3 #[v]) (I6 n) wl6] [(14, .bool (decide ((↑i : Int) < ↑n)))] [] hS (.c (rlr 4 hv) .nil) fun a hS => ?_
 refine cond_b hS rfl (fun hb9 => ?_) (fun hb9 => ?_)
 ·
  replace hb9 := of_decide_eq_true hb9
  obtain ⟨x, hx⟩ : ∃ x, bs[i]? = some x := gE
  refine wpIn_skip <| hK7 _ _ <| sq fun K10 hK10 => wpIn_block <| sq fun K11 hK11 => ?_
  refine fn3 [.q .p, .q .p, .q (.run ((Po (bof v) (oof v + i * 1)))), .q (.ld (.bool x)), .q .p, .q .p, .q (.run ((Po (bof u) (oof u + i * 1)))), .q (.ld (.bool x)), .q (.as (.bool false))] [0, 0, 0, 0, 0, 0, 0, 0, 0] [0, 0, 0, 0, 0, 0, 0, 0, 0] [0, 0, 3, 7, 0, 0, 48, 112, 255] [] 0 ([(0, v), (1, u), (5, I6 i), (14, .bool (decide ((↑i : Int) < ↑n))), (17, v), (18, I6 i), (19, (Po (bof v) (oof v + i * 1))), (20, .bool x), (21, u), (22, I6 i), (23, (Po (bof u) (oof u + i * 1))), (24, .bool x), (25, .bool false)]) [wl6.drew] wl6.drew (fun w' => [(2, [Rv (Instr.indexAt 31 (v) (I6 i)) ((Po (bof v) (oof v + i * 1))) w']), (3, [w'.cell? ⟨bof v, oof v + i * 1, none⟩ = some (.bool x)]), (6, [Rv (Instr.indexAt 31 (u) (I6 i)) ((Po (bof u) (oof u + i * 1))) w']), (7, [w'.cell? ⟨bof u, oof u + i * 1, none⟩ = some (.bool x)]), (8, [Value.bool (!(x == x)) = .bool false])]) [0, 1, 5, 14] [] hS (fun _ => by kernel_rfl) ?_ ?_ ?_
  ·intro e w' hw
   refine (.c ?_ (.c ?_ (.c ?_ (.c ?_ (.c ?_ .nil)))))
   ·exact fun _ _ => (.c (ixr 4 i hv) .nil)
   ·intro h1 h2
    obtain rfl := Nat.le_antisymm h2 h1
    obtain rfl : w' = wl6.drew := hw.trans (by kernel_rfl)
    exact (.c ((hv.ext0 (hXl6.trans0 (by first | exact (Ext.refl [] _).drew | exact Ext.refl [] _))).cellAt (i * 1) (by omega) (bls_at' hx)) .nil)
   ·exact fun _ _ => (.c (ixr 4 i hu) .nil)
   ·intro h1 h2
    obtain rfl := Nat.le_antisymm h2 h1
    obtain rfl : w' = wl6.drew := hw.trans (by kernel_rfl)
    exact (.c ((hu.ext0 (hXl6.trans0 (by first | exact (Ext.refl [] _).drew | exact Ext.refl [] _))).cellAt (i * 1) (by omega) (bls_at' hx)) .nil)
   ·exact fun _ _ => (.c ((by simp)) .nil)
  ·refine .nil
  rintro a w13 hS hw14
  replace hw14 : w13 = wl6.drew := hw14.trans (by kernel_rfl)
  have hE15 : Ext [] w w13 := by rw [hw14]; exact hXl6.drew
  replace hS := hS.kp [(0, v), (1, u), (5, I6 i), (14, .bool (decide ((↑i : Int) < ↑n))), (25, .bool false)]
  refine hK11 _ _ ?_
  refine cond_f hS rfl ?_
  refine wpIn_skip <| inBlock_normal <| hK10 _ _ <| rgn 3 <| sd ww [.p, .as (I6 (↑i + 1)), .p] [_] [(5, I6 (↑i + 1))] [] 3 0 hS (as6 (↑i + 1)) fun a hS => seg_end ?_
  exact ⟨i + 1, ⟨hS.kp [(0, v), (1, u), (5, I6 (↑i + 1))], hE15, by omega⟩, by omega⟩
 ·
  replace hb9 := of_decide_eq_false hb9
  refine xt2 <| hK4 _ _ <| sdq 1 [.p] [] [(4, .bool true)] [] hS .nil fun a hS => wpIn_ret ?_
  refine ret1 hS Tryd.results21 rfl ?_
  exact ⟨rfl, hXl6⟩
theorem sameRows_eq {w : World} {v u : Value} {n : Nat} {ls : List (List Nat)} (h1 : RdL w v n ls) (h2 : RdL w u n ls) (hn : n ≤ 1048576) :
  Calls Tryd.prog 26 #[v, u] w fun e w' => e = .returned (.bool true) ∧ Ext [] w w' := by
 obtain ⟨⟨va, hv, hva, hra⟩, hln, hmx⟩ := h1
 obtain ⟨⟨vb, hu, hvb, hrb⟩, _, _⟩ := h2
 refine cbd 27 [(0, v), (1, u)] Tryd.func26 rfl fun a hS => ?_
 have hE0 : Ext [] w w := Ext.refl _ _
 refine sq fun K1 hK1 => rgn 1 <| sg ww [.p] [] [(0, v), (1, u), (4, .bool false)] 1 0 hS .nil fun a hS => sge hK1 <| sq fun K2 hK2 => sdq 5 [.p, .run (I6 n), .p, .run (I6 n), .as (.bool false)] [Rv (Builtin.len_ #[37] 3 #[v]) (I6 n) w, Rv (Builtin.len_ #[37] 3 #[u]) (I6 n) w, Value.bool (((↑n : Int) != ↑n)) = .bool false] [(10, .bool false)] [] hS (.c (rlr 51 hv) (.c (rlr 51 hu) (.c (as_ne_f (rfl)) .nil))) fun a hS => ?_
 refine cond_f hS rfl ?_
 refine wpIn_skip <| hK2 _ _ <| sq fun K4 hK4 => sdq 1 [.p] [] [(5, I6 0)] [] hS .nil fun a hS => wpIn_block ?_
 refine loop_ghost (fun (i : Nat) a' w' => St 27 [] [(0, v), (1, u), (5, I6 i)] a' ∧ Ext [] w w' ∧ i ≤ n) (fun (i : Nat) => n - i) 0 ⟨hS.keepTo [0, 1, 5] (by kernel_rfl), hE0, by omega⟩ ?_
 rintro i a wl6 ⟨hS, hXl6, hi⟩
 refine sq fun K7 hK7 => sdq 4 [.p, .p, .run (I6 n), .p] [Rv (Builtin.len_ #[37] 3 #[v]) (I6 n) wl6] [(14, .bool (decide ((↑i : Int) < ↑n)))] [] hS (.c (rlr 51 hv) .nil) fun a hS => ?_
 refine cond_b hS rfl (fun hb9 => ?_) (fun hb9 => ?_)
 ·
  replace hb9 := of_decide_eq_true hb9
  obtain ⟨l, hl⟩ : ∃ l, ls[i]? = some l := gE
  obtain ⟨xv, hx, hxr⟩ := hra i l hl
  obtain ⟨yv, hy, hyr⟩ := hrb i l hl
  have hlm := hmx l (List.mem_of_getElem? hl)
  refine wpIn_skip <| hK7 _ _ <| sq fun K10 hK10 => wpIn_block <| sq fun K11 hK11 => ?_
  refine gh3 (G := World) [.q .p, .q .p, .q (.run ((Po (bof v) (oof v + i * 1)))), .q (.ld (xv)), .q .p, .q .p, .q (.run ((Po (bof u) (oof u + i * 1)))), .q (.ld (yv)), .e, .q .p] [0, 0, 0, 0, 0, 0, 0, 0, 0, 1] [0, 0, 0, 0, 0, 0, 0, 0, 0, 1] [0, 0, 3, 7, 0, 0, 48, 112, 255, 511] [8] [(8, 0)] 1 (fun wc12 => ([(0, v), (1, u), (5, I6 i), (14, .bool (decide ((↑i : Int) < ↑n))), (17, v), (18, I6 i), (19, (Po (bof v) (oof v + i * 1))), (20, xv), (21, u), (22, I6 i), (23, (Po (bof u) (oof u + i * 1))), (24, yv), (25, .bool true), (26, .bool false)] : Fm)) (fun wc12 => [wl6.drew, wc12]) (wl6.drew) (fun e wc12 => hAt [True, (Ext [] wl6.drew wc12) ∧ True] e) (fun wc12 w' => [(2, [Rv (Instr.indexAt 37 (v) (I6 i)) ((Po (bof v) (oof v + i * 1))) w']), (3, [w'.cell? ⟨bof v, oof v + i * 1, none⟩ = some (xv)]), (6, [Rv (Instr.indexAt 37 (u) (I6 i)) ((Po (bof u) (oof u + i * 1))) w']), (7, [w'.cell? ⟨bof u, oof u + i * 1, none⟩ = some (yv)])]) wl6.drew [0, 1, 5, 14] [] hS (fun wc12 _ => by kernel_rfl) trivial ?_ ?_ ?_
  ·rintro e wc12 w' hw hH
   refine (.c ?_ (.c ?_ (.c ?_ (.c ?_ .nil))))
   ·intro h1 h2
    obtain rfl := Nat.le_antisymm h2 h1
    have hwe : wl6.drew = w' := hwz hw
    subst hwe
    clear hH
    exact (.c (ixr 51 i hv) .nil)
   ·intro h1 h2
    obtain rfl := Nat.le_antisymm h2 h1
    have hwe : wl6.drew = w' := hwz hw
    subst hwe
    clear hH
    exact (.c ((hv.ext0 (hXl6.trans0 (by first | exact (Ext.refl [] _).drew | exact Ext.refl [] _))).cellAt (i * 1) (by omega) (by rw [Nat.mul_one]; exact hx)) .nil)
   ·intro h1 h2
    obtain rfl := Nat.le_antisymm h2 h1
    have hwe : wl6.drew = w' := hwz hw
    subst hwe
    clear hH
    exact (.c (ixr 51 i hu) .nil)
   ·intro h1 h2
    obtain rfl := Nat.le_antisymm h2 h1
    have hwe : wl6.drew = w' := hwz hw
    subst hwe
    clear hH
    exact (.c ((hu.ext0 (hXl6.trans0 (by first | exact (Ext.refl [] _).drew | exact Ext.refl [] _))).cellAt (i * 1) (by omega) (by rw [Nat.mul_one]; exact hy)) .nil)
  ·refine (.c ?eq13_8 .nil)
   ·rintro wc12 hH
    clear hH
    refine eff_gh (wl6.drew) (by kernel_rfl) ?_
    refine upon_call (f := 35) (vs := [xv, yv]) (cap := #[]) (d := (some 25)) (by kernel_rfl) Tryd.call35 #[xv, yv] (by kernel_rfl) (SameInts_eq (hxr.ext0 (hXl6.trans0 ((Ext.refl [] _).drew))) (hyr.ext0 (hXl6.trans0 ((Ext.refl [] _).drew))) hlm) ?_
    rintro _ wc12 ⟨rfl, hEc12⟩
    exact ⟨_, rfl, ⟨wc12, by kernel_rfl, by kernel_rfl, by kernel_rfl, ⟨hEc12, trivial⟩⟩⟩
  rintro wc12 a w14 hS hw15 hH
  obtain ⟨hEc12, _⟩ := hH
  replace hw15 : w14 = wc12 := hw15.trans (by kernel_rfl)
  have hE16 : Ext [] w w14 := by rw [hw15]; exact (hXl6.drew).trans0 hEc12
  replace hS := hS.kp [(0, v), (1, u), (5, I6 i), (14, .bool (decide ((↑i : Int) < ↑n))), (26, .bool false)]
  refine hK11 _ _ ?_
  refine cond_f hS rfl ?_
  refine wpIn_skip <| inBlock_normal <| hK10 _ _ <| rgn 3 <| sd ww [.p, .as (I6 (↑i + 1)), .p] [_] [(5, I6 (↑i + 1))] [] 3 0 hS (as6 (↑i + 1)) fun a hS => seg_end ?_
  exact ⟨i + 1, ⟨hS.kp [(0, v), (1, u), (5, I6 (↑i + 1))], hE16, by omega⟩, by omega⟩
 ·
  replace hb9 := of_decide_eq_false hb9
  refine xt2 <| hK4 _ _ <| sdq 1 [.p] [] [(4, .bool true)] [] hS .nil fun a hS => wpIn_ret ?_
  refine ret1 hS Tryd.results26 rfl ?_
  exact ⟨rfl, hXl6⟩
theorem sameTold_eq {w : World} {e1 f1 g1 y1 e2 f2 g2 y2 : Value} {n m : Nat} {es : List Bool} {fl gl yl : List (List Nat)} (fu : Bool) (he1 : RdV w 1 e1 n (bls es)) (he2 : RdV w 1 e2 n (bls es)) (hf1 : RdL w f1 n fl) (hf2 : RdL w f2 n fl) (hg1 : RdL w g1 n gl) (hg2 : RdL w g2 n gl) (hy1 : RdL w y1 m yl) (hy2 : RdL w y2 m yl) (hn : n ≤ 1048576) (hm : m ≤ 1048576) :
  Calls Tryd.prog 32 #[.agg #[e1, f1, g1, y1, .bool fu], .agg #[e2, f2, g2, y2, .bool fu]] w fun e w' => e = .returned (.bool true) ∧ Ext [] w w' := by
 refine cbd 38 [(0, .agg #[e1, f1, g1, y1, .bool fu]), (1, .agg #[e2, f2, g2, y2, .bool fu])] Tryd.func32 rfl fun a hS => ?_
 have hE0 : Ext [] w w := Ext.refl _ _
 refine sq fun K1 hK1 => rgn 3 <| ebx 2 #[e1, f1, g1, y1, .bool fu] 53 (some 2) hS fun a w2 hw3 hS => ?_
 have hB4 := Blk.nw hw3
 have hs5 := hE0.size
 have hE6 := hE0.al hw3
 refine ebx 1 #[e2, f2, g2, y2, .bool fu] 53 (some 3) hS fun a w7 hw8 hS => ?_
 have hB10 := Blk.at' hw8 (hB4.alloc _)
 have hB11 := Blk.nw hw8
 have hs12 := hE6.size
 have hE13 := hE6.al hw8
 refine sd ww [.p] [] [(4, .bool false)] [] 3 0 hS .nil fun a hS => sge hK1 <| sq fun K14 hK14 => rgn 34 <| sd ww [.p, .ld (.bool fu), .p, .ld (.bool fu), .as (.bool true), .p, .p, .ld (e1), .p, .ld (e2)] [_, _, Value.bool ((fu == fu)) = .bool true, _, _] [(10, .bool true), (12, e1), (14, e2)] [] 10 24 hS (hB10.k 4 (hB11.k 4 (.c ((by simp)) (hB10.k 0 (hB11.k 0 .nil))))) fun a hS => ecl 23 (some 15) hS Tryd.call21 #[e1, e2] (sameBools_eq (he1.ext0 hE13) (he2.ext0 hE13) hn) ?_
 rintro _ wc15 ⟨rfl, hEc15⟩
 refine ⟨_, rfl, fun a hS => ?_⟩
 have hB16 := hB10.ext hEc15 (by simp)
 have hB17 := hB11.ext hEc15 (by simp)
 have hE18 := hE13.trans0 hEc15
 refine sd ww [.p, .p, .p, .ld (f1), .p, .ld (f2)] [_, _] [(17, .bool true), (19, f1), (21, f2)] [] 17 17 hS (hB16.k 1 (hB17.k 1 .nil)) fun a hS => ecl 16 (some 22) hS Tryd.call26 #[f1, f2] (sameRows_eq (hf1.ext0 hE18) (hf2.ext0 hE18) hn) ?_
 rintro _ wc19 ⟨rfl, hEc19⟩
 refine ⟨_, rfl, fun a hS => ?_⟩
 have hB20 := hB16.ext hEc19 (by simp)
 have hB21 := hB17.ext hEc19 (by simp)
 have hE22 := hE18.trans0 hEc19
 refine sd ww [.p, .p, .p, .ld (g1), .p, .ld (g2)] [_, _] [(24, .bool true), (26, g1), (28, g2)] [] 24 10 hS (hB20.k 2 (hB21.k 2 .nil)) fun a hS => ecl 9 (some 29) hS Tryd.call26 #[g1, g2] (sameRows_eq (hg1.ext0 hE22) (hg2.ext0 hE22) hn) ?_
 rintro _ wc23 ⟨rfl, hEc23⟩
 refine ⟨_, rfl, fun a hS => ?_⟩
 have hB24 := hB20.ext hEc23 (by simp)
 have hB25 := hB21.ext hEc23 (by simp)
 have hE26 := hE22.trans0 hEc23
 refine sd ww [.p, .p, .p, .ld (y1), .p, .ld (y2)] [_, _] [(31, .bool true), (33, y1), (35, y2)] [] 31 3 hS (hB24.k 3 (hB25.k 3 .nil)) fun a hS => ecl 2 (some 36) hS Tryd.call26 #[y1, y2] (sameRows_eq (hy1.ext0 hE26) (hy2.ext0 hE26) hm) ?_
 rintro _ wc27 ⟨rfl, hEc27⟩
 refine ⟨_, rfl, fun a hS => ?_⟩
 have hE30 := hE26.trans0 hEc27
 refine sd ww [.p, .p] [] [(4, .bool true)] [] 34 0 hS .nil fun a hS => sge hK14 <| wpIn_ret ?_
 refine ret1 hS Tryd.results32 rfl ?_
 exact ⟨rfl, hE30⟩
end Go.Proofs.YtkkpghlcmcaoiaaDoor
