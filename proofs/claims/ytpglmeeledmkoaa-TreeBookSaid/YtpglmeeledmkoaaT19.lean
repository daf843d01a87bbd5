import Derived.Test.YtpglmeeledmkoaaProg
import Derived.Test.YtpglmeeledmkoaaVc
import Derived.Test.YtpglmeeledmkoaaT8
import Derived.Test.YtpglmeeledmkoaaVb
namespace Go.Proofs.Ytpglmeeledmkoaa
open Go.Vc

theorem Right_of {cb : Nat} {w : World} {R : Ending → World → Prop} (hR : ∀ {e w'}, R e w' → ∃ b, e = .returned (.bool b)) (h : Calls Try.prog 70 #[(Pv cb), I6 1] w R) :
  Calls Try.prog 45 #[(Pv cb)] w fun e w' => R e w' := by
 refine calls_body 5 [(0, (Pv cb))] Try.func45 rfl (by kernel_rfl) (by kernel_rfl) (by kernel_rfl) fun a hS => ?_
 refine sq fun K1 hK1 => ?_
 refine rgn 1 ?_
 refine sg wide_wide [.p] [] [(0, (Pv cb)), (2, .bool false)] 1 0 hS .nil fun a hS => ?_
 refine seg_end ?_
 refine hK1 _ _ ?_
 refine sq fun K2 hK2 => ?_
 refine rgn 3 ?_
 refine sg wide_wide [.p] [] [(0, (Pv cb)), (2, .bool false), (3, (Pv cb))] 1 2 hS .nil fun a hS => ?_
 refine eff_call wide_wide (r := 1) (f := 70) (vs := [(Pv cb), I6 1]) (cap := #[]) (d := (some 4)) hS (by kernel_rfl) Try.call70 #[(Pv cb), I6 1] (by kernel_rfl) (h) ?_
 rintro _ w1 h1
 obtain ⟨b, rfl⟩ := hR h1
 refine ⟨_, rfl, fun a hS => ?_⟩
 refine sg wide_wide [.p] [] [(0, (Pv cb)), (2, .bool b)] 3 0 hS .nil fun a hS => ?_
 refine seg_end ?_
 refine hK2 _ _ ?_
 refine wpIn_ret ?_
 refine ret1 hS Try.results45 rfl ?_
 exact h1

theorem Left_of {cb : Nat} {w : World} {R : Ending → World → Prop} (hR : ∀ {e w'}, R e w' → ∃ b, e = .returned (.bool b)) (h : Calls Try.prog 70 #[(Pv cb), I6 (-1)] w R) :
  Calls Try.prog 46 #[(Pv cb)] w fun e w' => R e w' := by
 refine calls_body 5 [(0, (Pv cb))] Try.func46 rfl (by kernel_rfl) (by kernel_rfl) (by kernel_rfl) fun a hS => ?_
 refine sq fun K1 hK1 => ?_
 refine rgn 1 ?_
 refine sg wide_wide [.p] [] [(0, (Pv cb)), (2, .bool false)] 1 0 hS .nil fun a hS => ?_
 refine seg_end ?_
 refine hK1 _ _ ?_
 refine sq fun K2 hK2 => ?_
 refine rgn 3 ?_
 refine sg wide_wide [.p] [] [(0, (Pv cb)), (2, .bool false), (3, (Pv cb))] 1 2 hS .nil fun a hS => ?_
 refine eff_call wide_wide (r := 1) (f := 70) (vs := [(Pv cb), I6 (-1)]) (cap := #[]) (d := (some 4)) hS (by kernel_rfl) Try.call70 #[(Pv cb), I6 (-1)] (by kernel_rfl) (h) ?_
 rintro _ w1 h1
 obtain ⟨b, rfl⟩ := hR h1
 refine ⟨_, rfl, fun a hS => ?_⟩
 refine sg wide_wide [.p] [] [(0, (Pv cb)), (2, .bool b)] 3 0 hS .nil fun a hS => ?_
 refine seg_end ?_
 refine hK2 _ _ ?_
 refine wpIn_ret ?_
 refine ret1 hS Try.results46 rfl ?_
 exact h1

set_option maxHeartbeats 1000000 in
theorem SameInts_eq {va vb : Value} {n : Nat} {xs : List Int} {w : World} (ha : RdV w 1 va n (xs.map fun x => I6 x)) (hb : RdV w 1 vb n (xs.map fun x => I6 x)) (hn : n ≤ 1000000000) :
  Calls Try.prog 44 #[va, vb] w fun e w' => e = .returned (.bool true) ∧ Ext [] w w' := by
 have hl : xs.length = n := by have := ha.len; simpa using this
 refine calls_body 26 [(0, va), (1, vb)] Try.func44 rfl (by kernel_rfl) (by kernel_rfl) (by kernel_rfl) fun a hS => ?_
 have hE0 : Ext [] w w := Ext.refl _ _
 refine sq fun K1 hK1 => ?_
 refine rgn 1 ?_
 refine sg wide_wide [.p] [] [(0, va), (1, vb), (4, .bool false)] 1 0 hS .nil fun a hS => ?_
 refine seg_end ?_
 refine hK1 _ _ ?_
 refine sq fun K2 hK2 => ?_
 refine sq fun K3 hK3 => ?_
 refine rgn 5 ?_
 refine sg wide_wide [.p, .run (I6 ↑n), .p, .run (I6 ↑n), .as (.bool false)] [Ru Try.prog (vS (Builtin.len_ #[41] 3 #[va])) (I6 ↑n) w, Ru Try.prog (vS (Builtin.len_ #[41] 3 #[vb])) (I6 ↑n) w, Value.bool (((↑n : Int) != ↑n)) = .bool false] [(0, va), (1, vb), (4, .bool false), (10, .bool false)] 5 0 hS (.cons (run_len_rd (e := 3) ha (by kernel_rfl)) (.cons (run_len_rd (e := 3) hb (by kernel_rfl)) (.cons (as_ne_f (rfl)) .nil))) fun a hS => ?_
 refine seg_end ?_
 refine hK3 _ _ ?_
 refine cond_f hS rfl ?_
 refine wpIn_skip ?_
 refine hK2 _ _ ?_
 refine sq fun K4 hK4 => ?_
 refine sq fun K5 hK5 => ?_
 refine rgn 1 ?_
 refine sg wide_wide [.p] [] [(0, va), (1, vb), (4, .bool false), (10, .bool false), (5, I6 0)] 1 0 hS .nil fun a hS => ?_
 refine seg_end ?_
 refine hK5 _ _ ?_
 refine wpIn_block ?_
 refine loop_ghost (fun (i : Nat) a' w' => St 26 [] [(0, va), (1, vb), (5, I6 ↑i)] a' ∧ i ≤ n ∧ Ext [] w w') (fun (i : Nat) => n - i) 0 ⟨hS.keepTo [0, 1, 5] (by kernel_rfl), Nat.zero_le _, hE0⟩ ?_
 rintro i a w1 ⟨hS, hil, hEx⟩
 refine sq fun K6 hK6 => ?_
 refine sq fun K7 hK7 => ?_
 refine rgn 4 ?_
 refine sg wide_wide [.p, .p, .run (I6 ↑n), .p] [Ru Try.prog (vS (Builtin.len_ #[41] 3 #[va])) (I6 ↑n) w1] [(0, va), (1, vb), (5, I6 ↑i), (14, .bool (decide ((↑i : Int) < ↑n)))] 4 0 hS (.cons (run_len_rd (e := 3) ha (by kernel_rfl)) .nil) fun a hS => ?_
 refine seg_end ?_
 refine hK7 _ _ ?_
 refine cond_b hS rfl (fun hb8 => ?_) (fun hb8 => ?_)
 ·
  replace hb8 := of_decide_eq_true hb8
  have hi : i < n := by omega
  obtain ⟨x, hx⟩ : ∃ x, xs[i]? = some x := ⟨_, List.getElem?_eq_getElem (by omega)⟩
  have ha1 := ha.ext0 hEx
  have hb1 := hb.ext0 hEx
  have hxa : (xs.map fun x => Value.int .i64 x)[i * 1]? = some (I6 x) := by simp [hx]
  refine wpIn_skip ?_
  refine hK6 _ _ ?_
  refine sq fun K9 hK9 => ?_
  refine wpIn_block ?_
  refine sq fun K10 hK10 => ?_
  refine region_fn2 wide_wide [.q .p, .q .p, .q (.run ((Po (bof va) (oof va + i * 1)))), .q (.ld (I6 x)), .q .p, .q .p, .q (.run ((Po (bof vb) (oof vb + i * 1)))), .q (.ld (I6 x)), .q (.as (.bool false))] [0, 0, 0, 0, 0, 0, 0, 0, 0] [0, 0, 0, 0, 0, 0, 0, 0, 0] [0, 0, 3, 7, 0, 0, 48, 112, 255] [] 0 ([(0, va), (1, vb), (5, I6 ↑i), (17, va), (18, I6 ↑i), (19, (Po (bof va) (oof va + i * 1))), (20, I6 x), (21, vb), (22, I6 ↑i), (23, (Po (bof vb) (oof vb + i * 1))), (24, I6 x), (25, .bool false)]) [w1.drew] w1.drew (fun w' => [(2, [Ru Try.prog (vS (Instr.indexAt 41 (va) (I6 ↑i))) ((Po (bof va) (oof va + i * 1))) w']), (3, [w'.cell? ⟨bof va, oof va + i * 1, none⟩ = some (I6 x)]), (6, [Ru Try.prog (vS (Instr.indexAt 41 (vb) (I6 ↑i))) ((Po (bof vb) (oof vb + i * 1))) w']), (7, [w'.cell? ⟨bof vb, oof vb + i * 1, none⟩ = some (I6 x)]), (8, [Value.bool (((x : Int) != x)) = .bool false])]) [0, 1, 5] [] hS (by kernel_rfl) (by kernel_rfl) (by kernel_rfl) (by kernel_rfl) (fun _ => by kernel_rfl) (by kernel_rfl) (by kernel_rfl) (by kernel_rfl) ?_ ?_ ?_
  ·intro e w' hw
   refine (.cons ?_ (.cons ?_ (.cons ?_ (.cons ?_ (.cons ?_ .nil)))))
   ·exact fun _ _ => (.cons (ix_rd (e := 3) (j := i) ha (by kernel_rfl) (by kernel_rfl) rfl hi) .nil)
   ·intro h1 h2
    obtain rfl : e = 0 := Nat.le_antisymm h2 h1
    obtain rfl : w' = w1.drew := hw.trans (by kernel_rfl)
    exact (.cons (ha1.cellAt _ rfl hxa) .nil)
   ·exact fun _ _ => (.cons (ix_rd (e := 3) (j := i) hb (by kernel_rfl) (by kernel_rfl) rfl hi) .nil)
   ·intro h1 h2
    obtain rfl : e = 0 := Nat.le_antisymm h2 h1
    obtain rfl : w' = w1.drew := hw.trans (by kernel_rfl)
    exact (.cons (hb1.cellAt _ rfl hxa) .nil)
   ·exact fun _ _ => (.cons (as_ne_f (rfl)) .nil)
  ·refine .nil
  rintro a w12 hS hw13
  replace hw13 : w12 = w1.drew := hw13.trans (by kernel_rfl)
  have hE14 : Ext [] w w12 := by rw [hw13]; exact hEx.drew
  replace hS := hS.kp [(0, va), (1, vb), (5, I6 ↑i), (25, .bool false)]
  refine hK10 _ _ ?_
  refine cond_f hS rfl ?_
  refine wpIn_skip ?_
  refine inBlock_normal ?_
  refine hK9 _ _ ?_
  refine rgn 3 ?_
  refine sg wide_wide [.p, .as (I6 (↑i + 1)), .p] [Value.int .i64 (IntKind.i64.wrap (↑i + 1)) = I6 (↑i + 1)] [(0, va), (1, vb), (5, I6 (↑i + 1)), (25, .bool false)] 3 0 hS (.cons (as_i64 (by omega)) .nil) fun a hS => ?_
  refine seg_end ?_
  exact ⟨i + 1, ⟨hS.keepTo [0, 1, 5] (by kernel_rfl), by omega, hE14⟩, by omega⟩
 ·
  replace hb8 := of_decide_eq_false hb8
  refine wpIn_exit ?_
  refine then_exit ?_
  refine then_exit ?_
  refine inBlock_hit ?_
  refine hK4 _ _ ?_
  refine sq fun K15 hK15 => ?_
  refine rgn 1 ?_
  refine sg wide_wide [.p] [] [(0, va), (1, vb), (5, I6 ↑i), (4, .bool true)] 1 0 hS .nil fun a hS => ?_
  refine seg_end ?_
  refine hK15 _ _ ?_
  refine wpIn_ret ?_
  refine ret1 hS Try.results44 rfl ?_
  exact ⟨rfl, hEx⟩

theorem With_0 {bs : Option Addr} {c : Nat} {x : Int} {w : World} :
  Calls Try.prog 76 #[.slice bs 0 c, I6 x] w fun e w' => ∃ g cap, e = .returned (.slice (some ⟨g, 0, none⟩) 1 cap) ∧ OwnR w' 3 1 g cap 1 ([x].map fun x => I6 x) ∧ Ext [] w w' ∧ w.heap.size ≤ g := by
 refine calls_body 13 [(0, .slice bs 0 c), (1, I6 x)] Try.func76 rfl (by kernel_rfl) (by kernel_rfl) (by kernel_rfl) fun a hS => ?_
 have hE0 : Ext [] w w := Ext.refl _ _
 refine sq fun K1 hK1 => ?_
 refine rgn 1 ?_
 refine sg wide_wide [.p] [] [(0, .slice bs 0 c), (1, I6 x), (4, .slice none 0 0)] 1 0 hS .nil fun a hS => ?_
 refine seg_end ?_
 refine hK1 _ _ ?_
 refine sq fun K2 hK2 => ?_
 refine rgn 1 ?_
 refine sg wide_wide [.p] [] [(0, .slice bs 0 c), (1, I6 x), (4, .slice none 0 0), (5, .slice none 0 0)] 1 0 hS .nil fun a hS => ?_
 refine seg_end ?_
 refine hK2 _ _ ?_
 refine sq fun K3 hK3 => ?_
 refine rgn 4 ?_
 refine sg wide_wide [.p, .p] [] [(0, .slice bs 0 c), (1, I6 x), (4, .slice none 0 0), (5, .slice none 0 0), (6, .slice none 0 0), (7, .slice bs 0 c)] 2 2 hS .nil fun a hS => ?_
 refine eff_run wide_wide (r := 1) (s := vS (Builtin.append_ #[41, 41] 41 #[.slice none 0 0, .slice bs 0 c])) (d := (some 8)) (v := .slice none 0 0) hS (by kernel_rfl) (vS_run (append_none (e := 3) (size := 1) (bytes := 8) (z := #[I6 0]) (n := 0) (xs := []) (by kernel_rfl) (by kernel_rfl) (OwnV.nil _ _ _))) fun a hS => ?_
 refine sg wide_wide [.p] [] [(0, .slice bs 0 c), (1, I6 x), (4, .slice none 0 0), (5, .slice none 0 0)] 4 0 hS .nil fun a hS => ?_
 refine seg_end ?_
 refine hK3 _ _ ?_
 refine sq fun K4 hK4 => ?_
 refine rgn 5 ?_
 refine sg wide_wide [.p, .p] [] [(0, .slice bs 0 c), (1, I6 x), (4, .slice none 0 0), (5, .slice none 0 0), (9, .slice none 0 0), (10, I6 x)] 2 3 hS .nil fun a hS => ?_
 refine eff_new wide_wide (r := 2) (cs := #[I6 x]) (T := 3) (v := Value.slice (some ⟨w.heap.size, 0, none⟩) 1 1) (d := (some 11)) hS (by kernel_rfl) fun a w5 hw6 hS => ?_
 have hB7 : Blk w5 (w.heap.size) 3 #[I6 x] := by rw [hw6]; exact Blk.new _ _ _
 have hs8 : w.heap.size ≤ w.heap.size := hE0.size
 have hE9 : Ext [] w w5 := by rw [hw6]; exact hE0.alloc _
 refine eff_append2 wide_wide (r := 1) (d := (some 12)) (t := 41) (ty := 41) (e := 3) (size := 1) (bytes := 8) (len := 0) (b := w.heap.size) (off := 0) (k := 1) (c := 1) (z := #[I6 0]) (v := Value.slice none 0 0) (xs := ([])) [I6 x] hS (by kernel_rfl) (by kernel_rfl) (by kernel_rfl) (by kernel_rfl) (by kernel_rfl) (OwnV.nil _ _ _) (by simp) (fun j u hu => by rw [Nat.zero_add]; exact hB7.cell j (by simpa using hu)) rfl (by omega) (by omega) (by omega) fun ga10 ca10 a wa10 hOa10 hEa10 hFa10 hS => ?_
 replace hEa10 : Ext [] w5 wa10 := hEa10
 replace hFa10 : Fresh w5.heap.size [] [ga10] := hFa10
 rw [Nat.zero_add] at hOa10 hS
 rw [List.nil_append] at hOa10
 have hE12 : Ext [] w wa10 := hE9.trans0 hEa10
 have hn13 : w.heap.size ≤ ga10 := by
  rcases hFa10 ga10 (by simp) with h | h
  ·cases h
  ·exact Nat.le_trans hE9.size h
 refine sg wide_wide [.p] [] [(0, .slice bs 0 c), (1, I6 x), (4, .slice (some ⟨ga10, 0, none⟩) 1 ca10), (5, .slice none 0 0)] 5 0 hS .nil fun a hS => ?_
 refine seg_end ?_
 refine hK4 _ _ ?_
 refine wpIn_ret ?_
 refine ret1 hS Try.results76 rfl ?_
 exact ⟨_, _, rfl, hOa10, hE12, hn13⟩

theorem oneAll_ints : ∀ l : List Int, oneAll (l.map fun x => Value.int .i64 x) = true
 | [] => rfl
 | b :: l => by simp [oneAll, oneAll_ints l]; rfl

theorem With_1 {g cap n : Nat} {xs : List Int} {x : Int} {w : World} (hO : OwnR w 3 1 g cap n (xs.map fun x => I6 x)) (hn : 0 < n ∧ n ≤ 1000000000) :
  Calls Try.prog 76 #[.slice (some ⟨g, 0, none⟩) n cap, I6 x] w fun e w' => ∃ g cap, e = .returned (.slice (some ⟨g, 0, none⟩) (n + 1) cap) ∧ OwnR w' 3 1 g cap (n + 1) ((xs ++ [x]).map fun x => I6 x) ∧ Ext [] w w' ∧ w.heap.size ≤ g := by
 refine calls_body 13 [(0, .slice (some ⟨g, 0, none⟩) n cap), (1, I6 x)] Try.func76 rfl (by kernel_rfl) (by kernel_rfl) (by kernel_rfl) fun a hS => ?_
 have hE0 : Ext [] w w := Ext.refl _ _
 refine sq fun K1 hK1 => ?_
 refine rgn 1 ?_
 refine sg wide_wide [.p] [] [(0, .slice (some ⟨g, 0, none⟩) n cap), (1, I6 x), (4, .slice none 0 0)] 1 0 hS .nil fun a hS => ?_
 refine seg_end ?_
 refine hK1 _ _ ?_
 refine sq fun K2 hK2 => ?_
 refine rgn 1 ?_
 refine sg wide_wide [.p] [] [(0, .slice (some ⟨g, 0, none⟩) n cap), (1, I6 x), (4, .slice none 0 0), (5, .slice none 0 0)] 1 0 hS .nil fun a hS => ?_
 refine seg_end ?_
 refine hK2 _ _ ?_
 refine sq fun K3 hK3 => ?_
 refine rgn 4 ?_
 refine sg wide_wide [.p, .p] [] [(0, .slice (some ⟨g, 0, none⟩) n cap), (1, I6 x), (4, .slice none 0 0), (5, .slice none 0 0), (6, .slice none 0 0), (7, .slice (some ⟨g, 0, none⟩) n cap)] 2 2 hS .nil fun a hS => ?_
 refine eff_append2 wide_wide (r := 1) (d := (some 8)) (t := 41) (ty := 41) (e := 3) (size := 1) (bytes := 8) (len := 0) (b := g) (off := 0) (k := n) (c := cap) (z := #[I6 0]) (v := Value.slice none 0 0) (xs := ([])) (xs.map fun x => I6 x) hS (by kernel_rfl) (by kernel_rfl) (by kernel_rfl) (by kernel_rfl) (by kernel_rfl) (OwnV.nil _ _ _) (by simpa using hO.len) (fun j u hu => by rw [Nat.zero_add]; exact hO.cellAt j hu) (oneAll_ints xs) (by omega) (by omega) (by omega) fun ga4 ca4 a wa4 hOa4 hEa4 hFa4 hS => ?_
 replace hEa4 : Ext [] w wa4 := hEa4
 replace hFa4 : Fresh w.heap.size [] [ga4] := hFa4
 rw [Nat.zero_add] at hOa4 hS
 rw [List.nil_append] at hOa4
 have hE6 : Ext [] w wa4 := hE0.trans0 hEa4
 have hn7 : w.heap.size ≤ ga4 := by
  rcases hFa4 ga4 (by simp) with h | h
  ·cases h
  ·exact Nat.le_trans hE0.size h
 refine sg wide_wide [.p] [] [(0, .slice (some ⟨g, 0, none⟩) n cap), (1, I6 x), (4, .slice none 0 0), (5, .slice (some ⟨ga4, 0, none⟩) n ca4)] 4 0 hS .nil fun a hS => ?_
 refine seg_end ?_
 refine hK3 _ _ ?_
 refine sq fun K8 hK8 => ?_
 refine rgn 5 ?_
 refine sg wide_wide [.p, .p] [] [(0, .slice (some ⟨g, 0, none⟩) n cap), (1, I6 x), (4, .slice none 0 0), (5, .slice (some ⟨ga4, 0, none⟩) n ca4), (9, .slice (some ⟨ga4, 0, none⟩) n ca4), (10, I6 x)] 2 3 hS .nil fun a hS => ?_
 refine eff_new wide_wide (r := 2) (cs := #[I6 x]) (T := 3) (v := Value.slice (some ⟨wa4.heap.size, 0, none⟩) 1 1) (d := (some 11)) hS (by kernel_rfl) fun a w9 hw10 hS => ?_
 have hB14 := OwnR.at' hw10 (hOa4.alloc _)
 have hB15 : Blk w9 (wa4.heap.size) 3 #[I6 x] := by rw [hw10]; exact Blk.new _ _ _
 have hs16 : w.heap.size ≤ wa4.heap.size := hE6.size
 have hE17 : Ext [] w w9 := by rw [hw10]; exact hE6.alloc _
 refine eff_append2 wide_wide (r := 1) (d := (some 12)) (t := 41) (ty := 41) (e := 3) (size := 1) (bytes := 8) (len := n) (b := wa4.heap.size) (off := 0) (k := 1) (c := 1) (z := #[I6 0]) (v := Value.slice (some ⟨ga4, 0, none⟩) n ca4) (xs := (xs.map fun x => I6 x)) [I6 x] hS (by kernel_rfl) (by kernel_rfl) (by kernel_rfl) (by kernel_rfl) (by kernel_rfl) hB14.v (by simp) (fun j u hu => by rw [Nat.zero_add]; exact hB15.cell j (by simpa using hu)) rfl (by omega) (by omega) (by omega) fun ga18 ca18 a wa18 hOa18 hEa18 hFa18 hS => ?_
 replace hEa18 : Ext [ga4] w9 wa18 := hEa18
 have hE20 : Ext [] w wa18 := hE17.trans hEa18 (fun b hb => by simp at hb; subst hb; exact .inr hn7)
 have hn21 : w.heap.size ≤ ga18 := by
  rcases hFa18 ga18 (by simp) with h | h
  ·have h : ga18 = ga4 := by simpa [ob] using h
   rw [h]; exact hn7
  ·exact Nat.le_trans hE17.size h
 refine sg wide_wide [.p] [] [(0, .slice (some ⟨g, 0, none⟩) n cap), (1, I6 x), (4, .slice (some ⟨ga18, 0, none⟩) (n + 1) ca18), (5, .slice (some ⟨ga4, 0, none⟩) n ca4)] 5 0 hS .nil fun a hS => ?_
 refine seg_end ?_
 refine hK8 _ _ ?_
 refine wpIn_ret ?_
 refine ret1 hS Try.results76 rfl ?_
 exact ⟨_, _, rfl, by simpa using hOa18, hE20, hn21⟩

theorem With_any {v : Value} {n : Nat} {xs : List Int} {x : Int} {w : World} (hv : OwnV w 3 1 v n (xs.map fun x => I6 x)) (hn : n ≤ 1000000000) :
  Calls Try.prog 76 #[v, I6 x] w fun e w' => ∃ g cap, e = .returned (.slice (some ⟨g, 0, none⟩) (n + 1) cap) ∧ OwnR w' 3 1 g cap (n + 1) ((xs ++ [x]).map fun x => I6 x) ∧ Ext [] w w' ∧ w.heap.size ≤ g := by
 rcases hv with ⟨rfl, rfl, h⟩ | ⟨g, cap, rfl, h⟩
 ·obtain rfl : xs = [] := by simpa using h
  exact With_0
 ·rcases Nat.eq_zero_or_pos n with rfl | hp
  ·obtain rfl : xs = [] := by have := h.len; simpa using this
   exact With_0
  ·exact With_1 h ⟨hp, hn⟩

end Go.Proofs.Ytpglmeeledmkoaa
