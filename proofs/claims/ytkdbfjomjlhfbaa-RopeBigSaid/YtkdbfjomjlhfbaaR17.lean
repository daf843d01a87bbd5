import Derived.Test.YtkdbfjomjlhfbaaProg
import Derived.Test.YtkdbfjomjlhfbaaR16
namespace Go.Proofs.Ytkdbfjomjlhfbaa
open Go.Vc

theorem Splice_no {b : Nat} {o : Option Nd} {w : World} (hR : RpOk w b o) {v : Value} {n : Nat} {xs : List Int} (hv : RdV w 1 v n (bv xs)) (hB : BR xs) (hn : n ≤ 10000000000) {x y : Int} (h : x < 0 ∨ y < 0 ∨ x > (on o : Int) ∨ y > (on o : Int) - x) : Calls Try.prog 23 #[Pv b, I6 x, I6 y, v] w (RpN w 3) := by
 by_cases h1 : x < 0
 ·exact Splice_0 hR hv hB hn h1
 ·by_cases h2 : y < 0
  ·exact Splice_1 hR hv hB hn ⟨by omega, h2⟩
  ·by_cases h3 : x > (on o : Int)
   ·exact Splice_2 hR hv hB hn ⟨by omega, by omega, h3⟩
   ·exact Splice_3 hR hv hB hn ⟨by omega, by omega, by omega, by omega⟩

def ByN (w : World) (n : Nat) (xs : List Int) (e : Ending) (w' : World) : Prop := ∃ bs cap, e = .returned (.slice bs n cap) ∧ OwnV w' 5 1 (.slice bs n cap) n (bv xs) ∧ (∀ x ∈ ob (.slice bs n cap), w.heap.size ≤ x) ∧ Ext [] w w'
theorem ByV.n {w w' : World} {xs : List Int} {e : Ending} {n : Nat} (h : ByV w xs e w') (hl : xs.length = n) : ByN w n xs e w' := by subst hl; exact h

theorem Byts_any {b : Nat} {o : Option Nd} {w : World} (hR : RpOk w b o) :
  Calls Try.prog 34 #[(Pv b)] w fun e w' => ByV w (obs o) e w' := by
 refine calls_body 7 [(0, (Pv b))] Try.func34 rfl (by kernel_rfl) (by kernel_rfl) (by kernel_rfl) fun a hS => ?_
 have hE0 : Ext [] w w := Ext.refl _ _
 refine sq fun K1 hK1 => ?_
 refine rgn 1 ?_
 refine sg wide_wide [.p] [] [(0, (Pv b)), (2, .slice none 0 0)] 1 0 hS .nil fun a hS => ?_
 refine seg_end ?_
 refine hK1 _ _ ?_
 refine sq fun K2 hK2 => ?_
 refine sq fun K3 hK3 => ?_
 refine rgn 2 ?_
 refine sg wide_wide [.p, .p] [] [(0, (Pv b)), (2, .slice none 0 0), (4, .bool false)] 2 0 hS .nil fun a hS => ?_
 refine seg_end ?_
 refine hK3 _ _ ?_
 refine cond_f hS rfl ?_
 refine wpIn_skip ?_
 refine hK2 _ _ ?_
 refine sq fun K4 hK4 => ?_
 refine rgn 3 ?_
 refine sg wide_wide [.p] [] [(0, (Pv b)), (2, .slice none 0 0), (4, .bool false), (5, (Pv b))] 1 2 hS .nil fun a hS => ?_
 refine eff_call wide_wide (r := 1) (f := 32) (vs := [(Pv b)]) (cap := #[]) (d := (some 6)) hS (by kernel_rfl) Try.call32 #[(Pv b)] (by kernel_rfl) (Bytes_any hR) ?_
 rintro _ wc5 ⟨zq5, zc5, rfl, hO5, hN5, hEc5⟩
 refine ⟨_, rfl, fun a hS => ?_⟩
 have hG7 : RpOk wc5 b o := hR.ext0 hEc5
 have hE8 := hE0.trans0 hEc5
 refine sg wide_wide [.p] [] [(0, (Pv b)), (2, .slice zq5 ((obs o).length) zc5), (4, .bool false)] 3 0 hS .nil fun a hS => ?_
 refine seg_end ?_
 refine hK4 _ _ ?_
 refine wpIn_ret ?_
 refine ret1 hS Try.results34 rfl ?_
 exact ⟨_, _, rfl, hO5, hN5, hE8⟩

set_option maxHeartbeats 2000000 in
theorem RopeSplice_any {v u : Value} {n m : Nat} {xs ys : List Int} {x y : Int} {w : World} (hv : RdV w 1 v n (bv xs)) (hB : BR xs) (hu : RdV w 1 u m (bv ys)) (hC : BR ys) (hn : n ≤ 140737488355328) (hm : m ≤ 140737488355328) :
  Calls Try.prog 9 #[v, u, I6 x, I6 y] w fun e w' => e = .returned (.bool true) ∧ Ext [] w w' := by
 have hl : xs.length = n := by have := hv.len; simpa using this
 have hl2 : ys.length = m := by have := hu.len; simpa using this
 refine calls_body 244 [(0, v), (1, u), (2, I6 x), (3, I6 y)] Try.func9 rfl (by kernel_rfl) (by kernel_rfl) (by kernel_rfl) fun a hS => ?_
 have hE0 : Ext [] w w := Ext.refl _ _
 refine sq fun K1 hK1 => ?_
 refine rgn 1 ?_
 refine sg wide_wide [.p] [] [(0, v), (1, u), (2, I6 x), (3, I6 y), (8, .bool false)] 1 0 hS .nil fun a hS => ?_
 refine seg_end ?_
 refine hK1 _ _ ?_
 refine sq fun K2 hK2 => ?_
 refine sq fun K3 hK3 => ?_
 refine rgn 2 ?_
 refine eff_call wide_wide (r := 1) (f := 12) (vs := []) (cap := #[]) (d := (some 22)) hS (by kernel_rfl) Try.call12 #[] (by kernel_rfl) (Head_any) ?_
 rintro _ wc4 ⟨rfl, hEc4⟩
 refine ⟨_, rfl, fun a hS => ?_⟩
 have hG5 : RdV wc4 1 v n (bv xs) := hv.ext0 hEc4
 have hG6 : RdV wc4 1 u m (bv ys) := hu.ext0 hEc4
 have hE7 := hE0.trans0 hEc4
 refine sg wide_wide [.p] [] [(0, v), (1, u), (2, I6 x), (3, I6 y), (8, .bool false), (23, .bool false)] 2 0 hS .nil fun a hS => ?_
 refine seg_end ?_
 refine hK3 _ _ ?_
 refine cond_f hS rfl ?_
 refine wpIn_skip ?_
 refine hK2 _ _ ?_
 refine sq fun K8 hK8 => ?_
 refine sq fun K9 hK9 => ?_
 refine rgn 6 ?_
 refine sg wide_wide [.p, .run (I6 ↑n), .p, .run (I6 ↑m), .as (I6 (↑n + ↑m)), .p] [Ru Try.prog (vS (Builtin.len_ #[23] 3 #[v])) (I6 ↑n) wc4, Ru Try.prog (vS (Builtin.len_ #[23] 3 #[u])) (I6 ↑m) wc4, Value.int .i64 (IntKind.i64.wrap (↑n + ↑m)) = I6 (↑n + ↑m)] [(0, v), (1, u), (2, I6 x), (3, I6 y), (8, .bool false), (23, .bool false), (29, .bool (decide ((↑n + ↑m : Int) > 65536)))] 6 0 hS (.cons (run_len_rd (e := 5) hv (by kernel_rfl)) (.cons (run_len_rd (e := 5) hu (by kernel_rfl)) (.cons (as_i64 (by omega)) .nil))) fun a hS => ?_
 refine seg_end ?_
 refine hK9 _ _ ?_
 refine cond_b hS rfl (fun hb10 => ?_) (fun hb10 => ?_)
 ·
  replace hb10 := of_decide_eq_true hb10
  refine sq fun K11 hK11 => ?_
  refine rgn 1 ?_
  refine sg wide_wide [.p] [] [(0, v), (1, u), (2, I6 x), (3, I6 y), (8, .bool true), (23, .bool false)] 1 0 hS .nil fun a hS => ?_
  refine seg_end ?_
  refine hK11 _ _ ?_
  refine wpIn_ret ?_
  refine then_ret ?_
  refine ret1 hS Try.results9 rfl ?_
  exact ⟨rfl, hE7⟩
 ·
  replace hb10 := of_decide_eq_false hb10
  refine wpIn_skip ?_
  refine hK8 _ _ ?_
  refine sq fun K12 hK12 => ?_
  refine rgn 8 ?_
  refine sg wide_wide [.p] [] [(0, v), (1, u), (2, I6 x), (3, I6 y), (8, .bool false), (23, .bool false), (31, v)] 1 7 hS .nil fun a hS => ?_
  refine eff_call wide_wide (r := 6) (f := 14) (vs := [v]) (cap := #[]) (d := (some 32)) hS (by kernel_rfl) Try.call14 #[v] (by kernel_rfl) (Lend_any hG5 (by omega)) ?_
  rintro _ wc13 ⟨g13, rfl, hL13, hgn13, hEc13⟩
  refine ⟨_, rfl, fun a hS => ?_⟩
  have hG14 : RdV wc13 1 v n (bv xs) := hG5.ext0 hEc13
  have hG15 : RdV wc13 1 u m (bv ys) := hG6.ext0 hEc13
  have hE16 := hE7.trans0 hEc13
  refine eff_call wide_wide (r := 5) (f := 13) (vs := [.slice (some ⟨g13, 0, none⟩) n (n + 5)]) (cap := #[]) (d := (some 33)) hS (by kernel_rfl) Try.call13 #[.slice (some ⟨g13, 0, none⟩) n (n + 5)] (by kernel_rfl) (New_any (lent_rd hL13 hl) hB (by omega)) ?_
  rintro _ wc17 ⟨b17, o17, rfl, hR17, kR17, hEc17⟩
  refine ⟨_, rfl, fun a hS => ?_⟩
  have hG18 : RdV wc17 1 v n (bv xs) := hG14.ext0 hEc17
  have hG19 : RdV wc17 1 u m (bv ys) := hG15.ext0 hEc17
  have hE20 := hE16.trans0 hEc17
  refine sg wide_wide [.p, .p, .p, .p, .p] [] [(0, v), (1, u), (2, I6 x), (3, I6 y), (8, .bool false), (23, .bool false), (9, (Pv b17)), (10, I6 0)] 8 0 hS .nil fun a hS => ?_
  refine seg_end ?_
  refine hK12 _ _ ?_
  refine sq fun K21 hK21 => ?_
  refine rgn 8 ?_
  refine sg wide_wide [.p] [] [(0, v), (1, u), (2, I6 x), (3, I6 y), (8, .bool false), (23, .bool false), (9, (Pv b17)), (10, I6 0), (37, u)] 1 7 hS .nil fun a hS => ?_
  refine eff_call wide_wide (r := 6) (f := 14) (vs := [u]) (cap := #[]) (d := (some 38)) hS (by kernel_rfl) Try.call14 #[u] (by kernel_rfl) (Lend_any hG19 (by omega)) ?_
  rintro _ wc22 ⟨g22, rfl, hL22, hgn22, hEc22⟩
  refine ⟨_, rfl, fun a hS => ?_⟩
  have hG24 : RdV wc22 1 v n (bv xs) := hG18.ext0 hEc22
  have hG25 : RdV wc22 1 u m (bv ys) := hG19.ext0 hEc22
  have hG26 : RpOk wc22 b17 o17 := hR17.ext0 hEc22
  have hE27 := hE20.trans0 hEc22
  refine eff_call wide_wide (r := 5) (f := 13) (vs := [.slice (some ⟨g22, 0, none⟩) m (m + 5)]) (cap := #[]) (d := (some 39)) hS (by kernel_rfl) Try.call13 #[.slice (some ⟨g22, 0, none⟩) m (m + 5)] (by kernel_rfl) (New_any (lent_rd hL22 hl2) hC (by omega)) ?_
  rintro _ wc28 ⟨b28, o28, rfl, hR28, kR28, hEc28⟩
  refine ⟨_, rfl, fun a hS => ?_⟩
  have hG30 : RdV wc28 1 v n (bv xs) := hG24.ext0 hEc28
  have hG31 : RdV wc28 1 u m (bv ys) := hG25.ext0 hEc28
  have hG32 : RpOk wc28 b17 o17 := hG26.ext0 hEc28
  have hE33 := hE27.trans0 hEc28
  refine sg wide_wide [.p, .p, .p, .p, .p] [] [(0, v), (1, u), (2, I6 x), (3, I6 y), (8, .bool false), (23, .bool false), (9, (Pv b17)), (10, I6 0), (11, (Pv b28)), (12, I6 0)] 8 0 hS .nil fun a hS => ?_
  refine seg_end ?_
  refine hK21 _ _ ?_
  refine sq fun K34 hK34 => ?_
  refine sq fun K35 hK35 => ?_
  refine rgn 14 ?_
  refine sg wide_wide [.p, .p, .p, .p, .p, .p, .p, .p, .p, .p, .p, .p, .p, .p] [] [(0, v), (1, u), (2, I6 x), (3, I6 y), (8, .bool false), (23, .bool false), (9, (Pv b17)), (10, I6 0), (11, (Pv b28)), (12, I6 0), (55, .bool false)] 14 0 hS .nil fun a hS => ?_
  refine seg_end ?_
  refine hK35 _ _ ?_
  refine cond_f hS rfl ?_
  refine wpIn_skip ?_
  refine hK34 _ _ ?_
  refine sq fun K36 hK36 => ?_
  have honr : on o17 = n := by rw [on, kR17, hl]
  rcases (show x < 0 ∨ (¬x < 0 ∧ y < 0) ∨ (¬x < 0 ∧ ¬y < 0 ∧ x > (n : Int)) ∨ (¬x < 0 ∧ ¬y < 0 ∧ ¬x > (n : Int) ∧ y > (n : Int) - x) ∨ (0 ≤ x ∧ 0 ≤ y ∧ x + y ≤ (n : Int)) by omega) with h0 | ⟨h0, h1⟩ | ⟨h0, h1, h2⟩ | ⟨h0, h1, h2, h3⟩ | ⟨h0, h1, h2⟩
  ·
   refine rgn 11 ?_
   refine sg wide_wide [.p, .p, .p, .p] [] [(0, v), (1, u), (2, I6 x), (3, I6 y), (8, .bool false), (23, .bool false), (9, (Pv b17)), (10, I6 0), (11, (Pv b28)), (12, I6 0), (55, .bool false), (57, (Pv b17)), (58, I6 x), (59, I6 y), (60, u)] 4 7 hS .nil fun a hS => ?_
   refine eff_call wide_wide (r := 6) (f := 14) (vs := [u]) (cap := #[]) (d := (some 61)) hS (by kernel_rfl) Try.call14 #[u] (by kernel_rfl) (Lend_any hG31 (by omega)) ?_
   rintro _ wc37 ⟨g37, rfl, hL37, hgn37, hEc37⟩
   refine ⟨_, rfl, fun a hS => ?_⟩
   have hG40 : RdV wc37 1 v n (bv xs) := hG30.ext0 hEc37
   have hG41 : RdV wc37 1 u m (bv ys) := hG31.ext0 hEc37
   have hG42 : RpOk wc37 b17 o17 := hG32.ext0 hEc37
   have hG43 : RpOk wc37 b28 o28 := hR28.ext0 hEc37
   have hE44 := hE33.trans0 hEc37
   refine eff_call wide_wide (r := 5) (f := 23) (vs := [(Pv b17), I6 x, I6 y, .slice (some ⟨g37, 0, none⟩) m (m + 5)]) (cap := #[]) (d := (some 62)) hS (by kernel_rfl) Try.call23 #[(Pv b17), I6 x, I6 y, .slice (some ⟨g37, 0, none⟩) m (m + 5)] (by kernel_rfl) (Splice_no hG42 (lent_rd hL37 hl2) hC (by omega) (by rw [honr]; omega)) ?_
   rintro _ wc45 ⟨rfl, hEc45⟩
   refine ⟨_, rfl, fun a hS => ?_⟩
   have hG48 : RdV wc45 1 v n (bv xs) := hG40.ext0 hEc45
   have hG49 : RdV wc45 1 u m (bv ys) := hG41.ext0 hEc45
   have hG50 : RpOk wc45 b17 o17 := hG42.ext0 hEc45
   have hG51 : RpOk wc45 b28 o28 := hG43.ext0 hEc45
   have hE52 := hE44.trans0 hEc45
   refine sg wide_wide [.p, .p, .p, .p, .p] [] [(0, v), (1, u), (2, I6 x), (3, I6 y), (8, .bool false), (23, .bool false), (9, (Pv b17)), (10, I6 3), (11, (Pv b28)), (12, I6 0), (55, .bool false), (13, .pointer none)] 11 0 hS .nil fun a hS => ?_
   refine seg_end ?_
   refine hK36 _ _ ?_
   refine sq fun K53 hK53 => ?_
   refine sq fun K54 hK54 => ?_
   refine rgn 20 ?_
   refine sg wide_wide [.p, .as (.bool true), .p, .no, .no, .p, .p, .no, .no, .no, .no, .p, .p, .no, .no, .no, .no, .no, .no, .p] [Value.bool (decide ((x : Int) < 0)) = .bool true] [(0, v), (1, u), (2, I6 x), (3, I6 y), (8, .bool false), (23, .bool false), (9, (Pv b17)), (10, I6 3), (11, (Pv b28)), (12, I6 0), (55, .bool false), (13, .pointer none), (84, .bool true)] 20 0 hS (.cons (as_t (by omega)) .nil) fun a hS => ?_
   refine seg_end ?_
   refine hK54 _ _ ?_
   refine cond_t hS rfl ?_
   refine sq fun K55 hK55 => ?_
   refine rgn 7 ?_
   refine sg wide_wide [.p, .p, .p, .p, .p, .p, .p] [] [(0, v), (1, u), (2, I6 x), (3, I6 y), (8, .bool true), (23, .bool false), (9, (Pv b17)), (10, I6 3), (11, (Pv b28)), (12, I6 0), (55, .bool false), (13, .pointer none), (84, .bool true)] 7 0 hS .nil fun a hS => ?_
   refine seg_end ?_
   refine hK55 _ _ ?_
   refine wpIn_ret ?_
   refine then_ret ?_
   refine ret1 hS Try.results9 rfl ?_
   exact ⟨rfl, hE52⟩
  ·
   refine rgn 11 ?_
   refine sg wide_wide [.p, .p, .p, .p] [] [(0, v), (1, u), (2, I6 x), (3, I6 y), (8, .bool false), (23, .bool false), (9, (Pv b17)), (10, I6 0), (11, (Pv b28)), (12, I6 0), (55, .bool false), (57, (Pv b17)), (58, I6 x), (59, I6 y), (60, u)] 4 7 hS .nil fun a hS => ?_
   refine eff_call wide_wide (r := 6) (f := 14) (vs := [u]) (cap := #[]) (d := (some 61)) hS (by kernel_rfl) Try.call14 #[u] (by kernel_rfl) (Lend_any hG31 (by omega)) ?_
   rintro _ wc56 ⟨g56, rfl, hL56, hgn56, hEc56⟩
   refine ⟨_, rfl, fun a hS => ?_⟩
   have hG59 : RdV wc56 1 v n (bv xs) := hG30.ext0 hEc56
   have hG60 : RdV wc56 1 u m (bv ys) := hG31.ext0 hEc56
   have hG61 : RpOk wc56 b17 o17 := hG32.ext0 hEc56
   have hG62 : RpOk wc56 b28 o28 := hR28.ext0 hEc56
   have hE63 := hE33.trans0 hEc56
   refine eff_call wide_wide (r := 5) (f := 23) (vs := [(Pv b17), I6 x, I6 y, .slice (some ⟨g56, 0, none⟩) m (m + 5)]) (cap := #[]) (d := (some 62)) hS (by kernel_rfl) Try.call23 #[(Pv b17), I6 x, I6 y, .slice (some ⟨g56, 0, none⟩) m (m + 5)] (by kernel_rfl) (Splice_no hG61 (lent_rd hL56 hl2) hC (by omega) (by rw [honr]; omega)) ?_
   rintro _ wc64 ⟨rfl, hEc64⟩
   refine ⟨_, rfl, fun a hS => ?_⟩
   have hG67 : RdV wc64 1 v n (bv xs) := hG59.ext0 hEc64
   have hG68 : RdV wc64 1 u m (bv ys) := hG60.ext0 hEc64
   have hG69 : RpOk wc64 b17 o17 := hG61.ext0 hEc64
   have hG70 : RpOk wc64 b28 o28 := hG62.ext0 hEc64
   have hE71 := hE63.trans0 hEc64
   refine sg wide_wide [.p, .p, .p, .p, .p] [] [(0, v), (1, u), (2, I6 x), (3, I6 y), (8, .bool false), (23, .bool false), (9, (Pv b17)), (10, I6 3), (11, (Pv b28)), (12, I6 0), (55, .bool false), (13, .pointer none)] 11 0 hS .nil fun a hS => ?_
   refine seg_end ?_
   refine hK36 _ _ ?_
   refine sq fun K72 hK72 => ?_
   refine sq fun K73 hK73 => ?_
   refine rgn 20 ?_
   refine sg wide_wide [.p, .as (.bool false), .p, .p, .as (.bool true), .p, .p, .no, .no, .no, .no, .p, .p, .no, .no, .no, .no, .no, .no, .p] [Value.bool (decide ((x : Int) < 0)) = .bool false, Value.bool (decide ((y : Int) < 0)) = .bool true] [(0, v), (1, u), (2, I6 x), (3, I6 y), (8, .bool false), (23, .bool false), (9, (Pv b17)), (10, I6 3), (11, (Pv b28)), (12, I6 0), (55, .bool false), (13, .pointer none), (84, .bool true)] 20 0 hS (.cons (as_f (by omega)) (.cons (as_t (by omega)) .nil)) fun a hS => ?_
   refine seg_end ?_
   refine hK73 _ _ ?_
   refine cond_t hS rfl ?_
   refine sq fun K74 hK74 => ?_
   refine rgn 7 ?_
   refine sg wide_wide [.p, .p, .p, .p, .p, .p, .p] [] [(0, v), (1, u), (2, I6 x), (3, I6 y), (8, .bool true), (23, .bool false), (9, (Pv b17)), (10, I6 3), (11, (Pv b28)), (12, I6 0), (55, .bool false), (13, .pointer none), (84, .bool true)] 7 0 hS .nil fun a hS => ?_
   refine seg_end ?_
   refine hK74 _ _ ?_
   refine wpIn_ret ?_
   refine then_ret ?_
   refine ret1 hS Try.results9 rfl ?_
   exact ⟨rfl, hE71⟩
  ·
   refine rgn 11 ?_
   refine sg wide_wide [.p, .p, .p, .p] [] [(0, v), (1, u), (2, I6 x), (3, I6 y), (8, .bool false), (23, .bool false), (9, (Pv b17)), (10, I6 0), (11, (Pv b28)), (12, I6 0), (55, .bool false), (57, (Pv b17)), (58, I6 x), (59, I6 y), (60, u)] 4 7 hS .nil fun a hS => ?_
   refine eff_call wide_wide (r := 6) (f := 14) (vs := [u]) (cap := #[]) (d := (some 61)) hS (by kernel_rfl) Try.call14 #[u] (by kernel_rfl) (Lend_any hG31 (by omega)) ?_
   rintro _ wc75 ⟨g75, rfl, hL75, hgn75, hEc75⟩
   refine ⟨_, rfl, fun a hS => ?_⟩
   have hG78 : RdV wc75 1 v n (bv xs) := hG30.ext0 hEc75
   have hG79 : RdV wc75 1 u m (bv ys) := hG31.ext0 hEc75
   have hG80 : RpOk wc75 b17 o17 := hG32.ext0 hEc75
   have hG81 : RpOk wc75 b28 o28 := hR28.ext0 hEc75
   have hE82 := hE33.trans0 hEc75
   refine eff_call wide_wide (r := 5) (f := 23) (vs := [(Pv b17), I6 x, I6 y, .slice (some ⟨g75, 0, none⟩) m (m + 5)]) (cap := #[]) (d := (some 62)) hS (by kernel_rfl) Try.call23 #[(Pv b17), I6 x, I6 y, .slice (some ⟨g75, 0, none⟩) m (m + 5)] (by kernel_rfl) (Splice_no hG80 (lent_rd hL75 hl2) hC (by omega) (by rw [honr]; omega)) ?_
   rintro _ wc83 ⟨rfl, hEc83⟩
   refine ⟨_, rfl, fun a hS => ?_⟩
   have hG86 : RdV wc83 1 v n (bv xs) := hG78.ext0 hEc83
   have hG87 : RdV wc83 1 u m (bv ys) := hG79.ext0 hEc83
   have hG88 : RpOk wc83 b17 o17 := hG80.ext0 hEc83
   have hG89 : RpOk wc83 b28 o28 := hG81.ext0 hEc83
   have hE90 := hE82.trans0 hEc83
   refine sg wide_wide [.p, .p, .p, .p, .p] [] [(0, v), (1, u), (2, I6 x), (3, I6 y), (8, .bool false), (23, .bool false), (9, (Pv b17)), (10, I6 3), (11, (Pv b28)), (12, I6 0), (55, .bool false), (13, .pointer none)] 11 0 hS .nil fun a hS => ?_
   refine seg_end ?_
   refine hK36 _ _ ?_
   refine sq fun K91 hK91 => ?_
   refine sq fun K92 hK92 => ?_
   refine rgn 20 ?_
   refine sg wide_wide [.p, .as (.bool false), .p, .p, .as (.bool false), .p, .p, .p, .p, .run (I6 ↑n), .as (.bool true), .p, .p, .no, .no, .no, .no, .no, .no, .p] [Value.bool (decide ((x : Int) < 0)) = .bool false, Value.bool (decide ((y : Int) < 0)) = .bool false, Ru Try.prog (vS (Builtin.len_ #[23] 3 #[v])) (I6 ↑n) wc83, Value.bool (decide ((x : Int) > ↑n)) = .bool true] [(0, v), (1, u), (2, I6 x), (3, I6 y), (8, .bool false), (23, .bool false), (9, (Pv b17)), (10, I6 3), (11, (Pv b28)), (12, I6 0), (55, .bool false), (13, .pointer none), (84, .bool true)] 20 0 hS (.cons (as_f (by omega)) (.cons (as_f (by omega)) (.cons (run_len_rd (e := 5) hv (by kernel_rfl)) (.cons (as_t (by omega)) .nil)))) fun a hS => ?_
   refine seg_end ?_
   refine hK92 _ _ ?_
   refine cond_t hS rfl ?_
   refine sq fun K93 hK93 => ?_
   refine rgn 7 ?_
   refine sg wide_wide [.p, .p, .p, .p, .p, .p, .p] [] [(0, v), (1, u), (2, I6 x), (3, I6 y), (8, .bool true), (23, .bool false), (9, (Pv b17)), (10, I6 3), (11, (Pv b28)), (12, I6 0), (55, .bool false), (13, .pointer none), (84, .bool true)] 7 0 hS .nil fun a hS => ?_
   refine seg_end ?_
   refine hK93 _ _ ?_
   refine wpIn_ret ?_
   refine then_ret ?_
   refine ret1 hS Try.results9 rfl ?_
   exact ⟨rfl, hE90⟩
  ·
   refine rgn 11 ?_
   refine sg wide_wide [.p, .p, .p, .p] [] [(0, v), (1, u), (2, I6 x), (3, I6 y), (8, .bool false), (23, .bool false), (9, (Pv b17)), (10, I6 0), (11, (Pv b28)), (12, I6 0), (55, .bool false), (57, (Pv b17)), (58, I6 x), (59, I6 y), (60, u)] 4 7 hS .nil fun a hS => ?_
   refine eff_call wide_wide (r := 6) (f := 14) (vs := [u]) (cap := #[]) (d := (some 61)) hS (by kernel_rfl) Try.call14 #[u] (by kernel_rfl) (Lend_any hG31 (by omega)) ?_
   rintro _ wc94 ⟨g94, rfl, hL94, hgn94, hEc94⟩
   refine ⟨_, rfl, fun a hS => ?_⟩
   have hG97 : RdV wc94 1 v n (bv xs) := hG30.ext0 hEc94
   have hG98 : RdV wc94 1 u m (bv ys) := hG31.ext0 hEc94
   have hG99 : RpOk wc94 b17 o17 := hG32.ext0 hEc94
   have hG100 : RpOk wc94 b28 o28 := hR28.ext0 hEc94
   have hE101 := hE33.trans0 hEc94
   refine eff_call wide_wide (r := 5) (f := 23) (vs := [(Pv b17), I6 x, I6 y, .slice (some ⟨g94, 0, none⟩) m (m + 5)]) (cap := #[]) (d := (some 62)) hS (by kernel_rfl) Try.call23 #[(Pv b17), I6 x, I6 y, .slice (some ⟨g94, 0, none⟩) m (m + 5)] (by kernel_rfl) (Splice_no hG99 (lent_rd hL94 hl2) hC (by omega) (by rw [honr]; omega)) ?_
   rintro _ wc102 ⟨rfl, hEc102⟩
   refine ⟨_, rfl, fun a hS => ?_⟩
   have hG105 : RdV wc102 1 v n (bv xs) := hG97.ext0 hEc102
   have hG106 : RdV wc102 1 u m (bv ys) := hG98.ext0 hEc102
   have hG107 : RpOk wc102 b17 o17 := hG99.ext0 hEc102
   have hG108 : RpOk wc102 b28 o28 := hG100.ext0 hEc102
   have hE109 := hE101.trans0 hEc102
   refine sg wide_wide [.p, .p, .p, .p, .p] [] [(0, v), (1, u), (2, I6 x), (3, I6 y), (8, .bool false), (23, .bool false), (9, (Pv b17)), (10, I6 3), (11, (Pv b28)), (12, I6 0), (55, .bool false), (13, .pointer none)] 11 0 hS .nil fun a hS => ?_
   refine seg_end ?_
   refine hK36 _ _ ?_
   refine sq fun K110 hK110 => ?_
   refine sq fun K111 hK111 => ?_
   refine rgn 20 ?_
   refine sg wide_wide [.p, .as (.bool false), .p, .p, .as (.bool false), .p, .p, .p, .p, .run (I6 ↑n), .as (.bool false), .p, .p, .p, .p, .run (I6 ↑n), .p, .as (I6 (↑n - x)), .as (.bool true), .p] [Value.bool (decide ((x : Int) < 0)) = .bool false, Value.bool (decide ((y : Int) < 0)) = .bool false, Ru Try.prog (vS (Builtin.len_ #[23] 3 #[v])) (I6 ↑n) wc102, Value.bool (decide ((x : Int) > ↑n)) = .bool false, Ru Try.prog (vS (Builtin.len_ #[23] 3 #[v])) (I6 ↑n) wc102, Value.int .i64 (IntKind.i64.wrap (↑n - x)) = I6 (↑n - x), Value.bool (decide ((y : Int) > ↑n - x)) = .bool true] [(0, v), (1, u), (2, I6 x), (3, I6 y), (8, .bool false), (23, .bool false), (9, (Pv b17)), (10, I6 3), (11, (Pv b28)), (12, I6 0), (55, .bool false), (13, .pointer none), (84, .bool true)] 20 0 hS (.cons (as_f (by omega)) (.cons (as_f (by omega)) (.cons (run_len_rd (e := 5) hv (by kernel_rfl)) (.cons (as_f (by omega)) (.cons (run_len_rd (e := 5) hv (by kernel_rfl)) (.cons (as_i64 (by omega)) (.cons (as_t (by omega)) .nil))))))) fun a hS => ?_
   refine seg_end ?_
   refine hK111 _ _ ?_
   refine cond_t hS rfl ?_
   refine sq fun K112 hK112 => ?_
   refine rgn 7 ?_
   refine sg wide_wide [.p, .p, .p, .p, .p, .p, .p] [] [(0, v), (1, u), (2, I6 x), (3, I6 y), (8, .bool true), (23, .bool false), (9, (Pv b17)), (10, I6 3), (11, (Pv b28)), (12, I6 0), (55, .bool false), (13, .pointer none), (84, .bool true)] 7 0 hS .nil fun a hS => ?_
   refine seg_end ?_
   refine hK112 _ _ ?_
   refine wpIn_ret ?_
   refine then_ret ?_
   refine ret1 hS Try.results9 rfl ?_
   exact ⟨rfl, hE109⟩
  ·
   obtain ⟨i, rfl⟩ : ∃ i : Nat, x = (i : Int) := ⟨x.toNat, by omega⟩
   obtain ⟨d, rfl⟩ : ∃ d : Nat, y = (d : Int) := ⟨y.toNat, by omega⟩
   have hid : i + d ≤ n := by omega
   refine rgn 11 ?_
   refine sg wide_wide [.p, .p, .p, .p] [] [(0, v), (1, u), (2, I6 ↑i), (3, I6 ↑d), (8, .bool false), (23, .bool false), (9, (Pv b17)), (10, I6 0), (11, (Pv b28)), (12, I6 0), (55, .bool false), (57, (Pv b17)), (58, I6 ↑i), (59, I6 ↑d), (60, u)] 4 7 hS .nil fun a hS => ?_
   refine eff_call wide_wide (r := 6) (f := 14) (vs := [u]) (cap := #[]) (d := (some 61)) hS (by kernel_rfl) Try.call14 #[u] (by kernel_rfl) (Lend_any hG31 (by omega)) ?_
   rintro _ wc113 ⟨g113, rfl, hL113, hgn113, hEc113⟩
   refine ⟨_, rfl, fun a hS => ?_⟩
   have hG116 : RdV wc113 1 v n (bv xs) := hG30.ext0 hEc113
   have hG117 : RdV wc113 1 u m (bv ys) := hG31.ext0 hEc113
   have hG118 : RpOk wc113 b17 o17 := hG32.ext0 hEc113
   have hG119 : RpOk wc113 b28 o28 := hR28.ext0 hEc113
   have hE120 := hE33.trans0 hEc113
   refine eff_call wide_wide (r := 5) (f := 23) (vs := [(Pv b17), I6 ↑i, I6 ↑d, .slice (some ⟨g113, 0, none⟩) m (m + 5)]) (cap := #[]) (d := (some 62)) hS (by kernel_rfl) Try.call23 #[(Pv b17), I6 ↑i, I6 ↑d, .slice (some ⟨g113, 0, none⟩) m (m + 5)] (by kernel_rfl) ((by have h := Splice_any (i := i) (d := d) hG118 (lent_rd hL113 hl2) hC (by omega) (by rw [honr]; exact hid) (by rw [honr]; omega); rw [kR17] at h; exact h : Calls Try.prog 23 _ _ (RpR _ (xs.take i ++ (ys ++ xs.drop (i + d)))))) ?_
   rintro _ wc121 ⟨b121, o121, rfl, hR121, kR121, hEc121⟩
   refine ⟨_, rfl, fun a hS => ?_⟩
   have hG124 : RdV wc121 1 v n (bv xs) := hG116.ext0 hEc121
   have hG125 : RdV wc121 1 u m (bv ys) := hG117.ext0 hEc121
   have hG126 : RpOk wc121 b17 o17 := hG118.ext0 hEc121
   have hG127 : RpOk wc121 b28 o28 := hG119.ext0 hEc121
   have hE128 := hE120.trans0 hEc121
   refine sg wide_wide [.p, .p, .p, .p, .p] [] [(0, v), (1, u), (2, I6 ↑i), (3, I6 ↑d), (8, .bool false), (23, .bool false), (9, (Pv b17)), (10, I6 0), (11, (Pv b28)), (12, I6 0), (55, .bool false), (13, (Pv b121))] 11 0 hS .nil fun a hS => ?_
   refine seg_end ?_
   refine hK36 _ _ ?_
   refine sq fun K129 hK129 => ?_
   refine sq fun K130 hK130 => ?_
   have hsl : (xs.take i ++ (ys ++ xs.drop (i + d))).length = n - d + m := by
    rw [List.length_append, List.length_append, List.length_take, List.length_drop]; omega
   have hons : on o121 = n - d + m := by rw [on, kR121, hsl]
   have hti : (xs.take i).length = i := by rw [List.length_take]; omega
   have hct : ((xs.take i ++ (ys ++ xs.drop (i + d))).drop i).take (i + m - i) = ys := by
    rw [List.drop_append, hti, Nat.sub_self, List.drop_zero, List.drop_of_length_le (by omega), List.nil_append, List.take_append_of_le_length (by omega), List.take_of_length_le (by omega)]
   have hbk : (xs.take i ++ (ys ++ xs.drop (i + d))).take i ++ ((xs.drop i).take (i + d - i) ++ (xs.take i ++ (ys ++ xs.drop (i + d))).drop (i + m)) = xs := by
    rw [List.take_append_of_le_length (by omega), List.take_of_length_le (l := xs.take i) (by omega), List.drop_append, hti, List.drop_of_length_le (l := xs.take i) (by omega), List.nil_append, show i + m - i = m by omega, List.drop_append, hl2, Nat.sub_self, List.drop_of_length_le (l := ys) (by omega), List.nil_append, List.drop_zero, show i + d - i = d by omega]
    conv => rhs; rw [← List.take_append_drop i xs, ← List.take_append_drop d (xs.drop i), List.drop_drop]
   refine rgn 20 ?_
   refine sg wide_wide [.p, .as (.bool false), .p, .p, .as (.bool false), .p, .p, .p, .p, .run (I6 ↑n), .as (.bool false), .p, .p, .p, .p, .run (I6 ↑n), .p, .as (I6 (↑n - ↑i)), .as (.bool false), .p] [Value.bool (decide ((↑i : Int) < 0)) = .bool false, Value.bool (decide ((↑d : Int) < 0)) = .bool false, Ru Try.prog (vS (Builtin.len_ #[23] 3 #[v])) (I6 ↑n) wc121, Value.bool (decide ((↑i : Int) > ↑n)) = .bool false, Ru Try.prog (vS (Builtin.len_ #[23] 3 #[v])) (I6 ↑n) wc121, Value.int .i64 (IntKind.i64.wrap (↑n - ↑i)) = I6 (↑n - ↑i), Value.bool (decide ((↑d : Int) > ↑n - ↑i)) = .bool false] [(0, v), (1, u), (2, I6 ↑i), (3, I6 ↑d), (8, .bool false), (23, .bool false), (9, (Pv b17)), (10, I6 0), (11, (Pv b28)), (12, I6 0), (55, .bool false), (13, (Pv b121)), (84, .bool false)] 20 0 hS (.cons (as_f (by omega)) (.cons (as_f (by omega)) (.cons (run_len_rd (e := 5) hv (by kernel_rfl)) (.cons (as_f (by omega)) (.cons (run_len_rd (e := 5) hv (by kernel_rfl)) (.cons (as_i64 (by omega)) (.cons (as_f (by omega)) .nil))))))) fun a hS => ?_
   refine seg_end ?_
   refine hK130 _ _ ?_
   refine cond_f hS rfl ?_
   refine wpIn_skip ?_
   refine hK129 _ _ ?_
   refine sq fun K131 hK131 => ?_
   refine rgn 8 ?_
   refine sg wide_wide [.p, .p] [] [(0, v), (1, u), (2, I6 ↑i), (3, I6 ↑d), (8, .bool false), (23, .bool false), (9, (Pv b17)), (10, I6 0), (11, (Pv b28)), (12, I6 0), (55, .bool false), (13, (Pv b121)), (84, .bool false), (92, (Pv b17)), (93, I6 ↑i)] 2 6 hS .nil fun a hS => ?_
   refine eff_call wide_wide (r := 5) (f := 20) (vs := [(Pv b17), I6 0, I6 ↑i]) (cap := #[]) (d := (some 94)) hS (by kernel_rfl) Try.call20 #[(Pv b17), I6 0, I6 ↑i] (by kernel_rfl) ((by have h := Cut_any (i := 0) (j := i) hG126 ⟨Nat.zero_le _, by rw [honr]; omega⟩; rw [kR17, List.drop_zero, Nat.sub_zero] at h; exact h : Calls Try.prog 20 _ _ (RpR _ (xs.take i)))) ?_
   rintro _ wc132 ⟨b132, o132, rfl, hR132, kR132, hEc132⟩
   refine ⟨_, rfl, fun a hS => ?_⟩
   have hG136 : RdV wc132 1 v n (bv xs) := hG124.ext0 hEc132
   have hG137 : RdV wc132 1 u m (bv ys) := hG125.ext0 hEc132
   have hG138 : RpOk wc132 b17 o17 := hG126.ext0 hEc132
   have hG139 : RpOk wc132 b28 o28 := hG127.ext0 hEc132
   have hG140 : RpOk wc132 b121 o121 := hR121.ext0 hEc132
   have hE141 := hE128.trans0 hEc132
   refine sg wide_wide [.p, .p, .p, .p, .p] [] [(0, v), (1, u), (2, I6 ↑i), (3, I6 ↑d), (8, .bool false), (23, .bool false), (9, (Pv b17)), (10, I6 0), (11, (Pv b28)), (12, I6 0), (55, .bool false), (13, (Pv b121)), (84, .bool false), (14, (Pv b132)), (15, I6 0)] 8 0 hS .nil fun a hS => ?_
   refine seg_end ?_
   refine hK131 _ _ ?_
   refine sq fun K142 hK142 => ?_
   refine rgn 12 ?_
   refine sg wide_wide [.p, .p, .p, .as (I6 ((i + d : Nat) : Int)), .p, .run (I6 ↑n)] [Value.int .i64 (IntKind.i64.wrap (↑i + ↑d)) = I6 ((i + d : Nat) : Int), Ru Try.prog (vS (Builtin.len_ #[23] 3 #[v])) (I6 ↑n) wc132] [(0, v), (1, u), (2, I6 ↑i), (3, I6 ↑d), (8, .bool false), (23, .bool false), (9, (Pv b17)), (10, I6 0), (11, (Pv b28)), (12, I6 0), (55, .bool false), (13, (Pv b121)), (84, .bool false), (14, (Pv b132)), (15, I6 0), (98, (Pv b17)), (101, I6 ((i + d : Nat) : Int)), (103, I6 ↑n)] 6 6 hS (.cons ((by rw [show (↑i + ↑d : Int) = ((i + d : Nat) : Int) from by omega]; exact as_i64 (by omega))) (.cons (run_len_rd (e := 5) hv (by kernel_rfl)) .nil)) fun a hS => ?_
   have hci : (i : Int) + (d : Int) = ((i + d : Nat) : Int) := by omega
   refine eff_call wide_wide (r := 5) (f := 20) (vs := [(Pv b17), I6 ((i + d : Nat) : Int), I6 ↑n]) (cap := #[]) (d := (some 104)) hS (by kernel_rfl) Try.call20 #[(Pv b17), I6 ((i + d : Nat) : Int), I6 ↑n] (by kernel_rfl) ((by have h := Cut_any (i := i + d) (j := n) hG138 ⟨hid, by rw [honr]; exact Nat.le_refl _⟩; rw [kR17, List.take_of_length_le (by rw [List.length_drop]; omega), Int.natCast_add] at h; exact h : Calls Try.prog 20 _ _ (RpR _ (xs.drop (i + d))))) ?_
   rintro _ wc143 ⟨b143, o143, rfl, hR143, kR143, hEc143⟩
   refine ⟨_, rfl, fun a hS => ?_⟩
   have hG148 : RdV wc143 1 v n (bv xs) := hG136.ext0 hEc143
   have hG149 : RdV wc143 1 u m (bv ys) := hG137.ext0 hEc143
   have hG150 : RpOk wc143 b17 o17 := hG138.ext0 hEc143
   have hG151 : RpOk wc143 b28 o28 := hG139.ext0 hEc143
   have hG152 : RpOk wc143 b121 o121 := hG140.ext0 hEc143
   have hG153 : RpOk wc143 b132 o132 := hR132.ext0 hEc143
   have hE154 := hE141.trans0 hEc143
   refine sg wide_wide [.p, .p, .p, .p, .p] [] [(0, v), (1, u), (2, I6 ↑i), (3, I6 ↑d), (8, .bool false), (23, .bool false), (9, (Pv b17)), (10, I6 0), (11, (Pv b28)), (12, I6 0), (55, .bool false), (13, (Pv b121)), (84, .bool false), (14, (Pv b132)), (15, I6 0), (16, (Pv b143)), (17, I6 0)] 12 0 hS .nil fun a hS => ?_
   refine seg_end ?_
   refine hK142 _ _ ?_
   refine sq fun K155 hK155 => ?_
   refine sq fun K156 hK156 => ?_
   refine rgn 22 ?_
   refine sg wide_wide [.p, .p, .p, .p, .p, .p, .p, .p, .p, .p, .p, .p, .p, .p, .p, .p, .p, .p, .p, .p, .p, .p] [] [(0, v), (1, u), (2, I6 ↑i), (3, I6 ↑d), (8, .bool false), (23, .bool false), (9, (Pv b17)), (10, I6 0), (11, (Pv b28)), (12, I6 0), (55, .bool false), (13, (Pv b121)), (84, .bool false), (14, (Pv b132)), (15, I6 0), (16, (Pv b143)), (17, I6 0), (128, .bool false)] 22 0 hS .nil fun a hS => ?_
   refine seg_end ?_
   refine hK156 _ _ ?_
   refine cond_f hS rfl ?_
   refine wpIn_skip ?_
   refine hK155 _ _ ?_
   refine sq fun K157 hK157 => ?_
   refine rgn 8 ?_
   refine sg wide_wide [.p, .p] [] [(0, v), (1, u), (2, I6 ↑i), (3, I6 ↑d), (8, .bool false), (23, .bool false), (9, (Pv b17)), (10, I6 0), (11, (Pv b28)), (12, I6 0), (55, .bool false), (13, (Pv b121)), (84, .bool false), (14, (Pv b132)), (15, I6 0), (16, (Pv b143)), (17, I6 0), (128, .bool false), (130, (Pv b132)), (131, (Pv b28))] 2 6 hS .nil fun a hS => ?_
   refine eff_call wide_wide (r := 5) (f := 18) (vs := [(Pv b132), (Pv b28)]) (cap := #[]) (d := (some 132)) hS (by kernel_rfl) Try.call18 #[(Pv b132), (Pv b28)] (by kernel_rfl) ((by have h := Cat_any hG153 hG151 (by rw [on, kR132, on, kR28, List.length_take]; omega); rw [kR132, kR28] at h; exact h : Calls Try.prog 18 _ _ (RpR _ (xs.take i ++ ys)))) ?_
   rintro _ wc158 ⟨b158, o158, rfl, hR158, kR158, hEc158⟩
   refine ⟨_, rfl, fun a hS => ?_⟩
   have hG164 : RdV wc158 1 v n (bv xs) := hG148.ext0 hEc158
   have hG165 : RdV wc158 1 u m (bv ys) := hG149.ext0 hEc158
   have hG166 : RpOk wc158 b17 o17 := hG150.ext0 hEc158
   have hG167 : RpOk wc158 b28 o28 := hG151.ext0 hEc158
   have hG168 : RpOk wc158 b121 o121 := hG152.ext0 hEc158
   have hG169 : RpOk wc158 b132 o132 := hG153.ext0 hEc158
   have hG170 : RpOk wc158 b143 o143 := hR143.ext0 hEc158
   have hE171 := hE154.trans0 hEc158
   refine sg wide_wide [.p, .p, .p, .p, .p] [] [(0, v), (1, u), (2, I6 ↑i), (3, I6 ↑d), (8, .bool false), (23, .bool false), (9, (Pv b17)), (10, I6 0), (11, (Pv b28)), (12, I6 0), (55, .bool false), (13, (Pv b121)), (84, .bool false), (14, (Pv b132)), (15, I6 0), (16, (Pv b143)), (17, I6 0), (128, .bool false), (18, (Pv b158))] 8 0 hS .nil fun a hS => ?_
   refine seg_end ?_
   refine hK157 _ _ ?_
   refine sq fun K172 hK172 => ?_
   refine sq fun K173 hK173 => ?_
   refine rgn 6 ?_
   refine sg wide_wide [.p, .p, .p, .p, .p, .p] [] [(0, v), (1, u), (2, I6 ↑i), (3, I6 ↑d), (8, .bool false), (23, .bool false), (9, (Pv b17)), (10, I6 0), (11, (Pv b28)), (12, I6 0), (55, .bool false), (13, (Pv b121)), (84, .bool false), (14, (Pv b132)), (15, I6 0), (16, (Pv b143)), (17, I6 0), (128, .bool false), (18, (Pv b158)), (140, .bool false)] 6 0 hS .nil fun a hS => ?_
   refine seg_end ?_
   refine hK173 _ _ ?_
   refine cond_f hS rfl ?_
   refine wpIn_skip ?_
   refine hK172 _ _ ?_
   refine sq fun K174 hK174 => ?_
   refine rgn 8 ?_
   refine sg wide_wide [.p, .p] [] [(0, v), (1, u), (2, I6 ↑i), (3, I6 ↑d), (8, .bool false), (23, .bool false), (9, (Pv b17)), (10, I6 0), (11, (Pv b28)), (12, I6 0), (55, .bool false), (13, (Pv b121)), (84, .bool false), (14, (Pv b132)), (15, I6 0), (16, (Pv b143)), (17, I6 0), (128, .bool false), (18, (Pv b158)), (140, .bool false), (142, (Pv b158)), (143, (Pv b143))] 2 6 hS .nil fun a hS => ?_
   refine eff_call wide_wide (r := 5) (f := 18) (vs := [(Pv b158), (Pv b143)]) (cap := #[]) (d := (some 144)) hS (by kernel_rfl) Try.call18 #[(Pv b158), (Pv b143)] (by kernel_rfl) ((by have h := Cat_any hR158 hG170 (by rw [on, kR158, on, kR143, List.length_append, List.length_take, List.length_drop]; omega); rw [kR158, kR143, List.append_assoc] at h; exact h : Calls Try.prog 18 _ _ (RpR _ (xs.take i ++ (ys ++ xs.drop (i + d)))))) ?_
   rintro _ wc175 ⟨b175, o175, rfl, hR175, kR175, hEc175⟩
   refine ⟨_, rfl, fun a hS => ?_⟩
   have hG182 : RdV wc175 1 v n (bv xs) := hG164.ext0 hEc175
   have hG183 : RdV wc175 1 u m (bv ys) := hG165.ext0 hEc175
   have hG184 : RpOk wc175 b17 o17 := hG166.ext0 hEc175
   have hG185 : RpOk wc175 b28 o28 := hG167.ext0 hEc175
   have hG186 : RpOk wc175 b121 o121 := hG168.ext0 hEc175
   have hG187 : RpOk wc175 b132 o132 := hG169.ext0 hEc175
   have hG188 : RpOk wc175 b143 o143 := hG170.ext0 hEc175
   have hG189 : RpOk wc175 b158 o158 := hR158.ext0 hEc175
   have hE190 := hE171.trans0 hEc175
   refine sg wide_wide [.p, .p, .p, .p, .p] [] [(0, v), (1, u), (2, I6 ↑i), (3, I6 ↑d), (8, .bool false), (23, .bool false), (9, (Pv b17)), (10, I6 0), (11, (Pv b28)), (12, I6 0), (55, .bool false), (13, (Pv b121)), (84, .bool false), (14, (Pv b132)), (15, I6 0), (16, (Pv b143)), (17, I6 0), (128, .bool false), (18, (Pv b158)), (140, .bool false), (19, (Pv b175))] 8 0 hS .nil fun a hS => ?_
   refine seg_end ?_
   refine hK174 _ _ ?_
   refine sq fun K191 hK191 => ?_
   refine sq fun K192 hK192 => ?_
   refine rgn 30 ?_
   refine sg wide_wide [.p, .p, .p, .p, .p, .p, .p, .p, .p] [] [(0, v), (1, u), (2, I6 ↑i), (3, I6 ↑d), (8, .bool false), (23, .bool false), (9, (Pv b17)), (10, I6 0), (11, (Pv b28)), (12, I6 0), (55, .bool false), (13, (Pv b121)), (84, .bool false), (14, (Pv b132)), (15, I6 0), (16, (Pv b143)), (17, I6 0), (128, .bool false), (18, (Pv b158)), (140, .bool false), (19, (Pv b175)), (153, .bool false), (154, (Pv b121)), (155, (Pv b175))] 9 21 hS .nil fun a hS => ?_
   refine eff_call wide_wide (r := 20) (f := 33) (vs := [(Pv b121), (Pv b175)]) (cap := #[]) (d := (some 156)) hS (by kernel_rfl) Try.call33 #[(Pv b121), (Pv b175)] (by kernel_rfl) ((by have h := EqualR_any hG186 hR175; rw [decide_eq_true (by rw [kR121, kR175])] at h; exact h : Calls Try.prog 33 _ _ fun e w' => e = .returned (.bool true) ∧ Ext [] _ w')) ?_
   rintro _ wc193 ⟨rfl, hEc193⟩
   refine ⟨_, rfl, fun a hS => ?_⟩
   have hG201 : RdV wc193 1 v n (bv xs) := hG182.ext0 hEc193
   have hG202 : RdV wc193 1 u m (bv ys) := hG183.ext0 hEc193
   have hG203 : RpOk wc193 b17 o17 := hG184.ext0 hEc193
   have hG204 : RpOk wc193 b28 o28 := hG185.ext0 hEc193
   have hG205 : RpOk wc193 b121 o121 := hG186.ext0 hEc193
   have hG206 : RpOk wc193 b132 o132 := hG187.ext0 hEc193
   have hG207 : RpOk wc193 b143 o143 := hG188.ext0 hEc193
   have hG208 : RpOk wc193 b158 o158 := hG189.ext0 hEc193
   have hG209 : RpOk wc193 b175 o175 := hR175.ext0 hEc193
   have hE210 := hE190.trans0 hEc193
   refine sg wide_wide [.p, .p, .p, .p, .p] [] [(0, v), (1, u), (2, I6 ↑i), (3, I6 ↑d), (8, .bool false), (23, .bool false), (9, (Pv b17)), (10, I6 0), (11, (Pv b28)), (12, I6 0), (55, .bool false), (13, (Pv b121)), (84, .bool false), (14, (Pv b132)), (15, I6 0), (16, (Pv b143)), (17, I6 0), (128, .bool false), (18, (Pv b158)), (140, .bool false), (19, (Pv b175)), (159, .bool false), (160, (Pv b175)), (161, (Pv b121))] 15 15 hS .nil fun a hS => ?_
   refine eff_call wide_wide (r := 14) (f := 33) (vs := [(Pv b175), (Pv b121)]) (cap := #[]) (d := (some 162)) hS (by kernel_rfl) Try.call33 #[(Pv b175), (Pv b121)] (by kernel_rfl) ((by have h := EqualR_any hG209 hG205; rw [decide_eq_true (by rw [kR175, kR121])] at h; exact h : Calls Try.prog 33 _ _ fun e w' => e = .returned (.bool true) ∧ Ext [] _ w')) ?_
   rintro _ wc211 ⟨rfl, hEc211⟩
   refine ⟨_, rfl, fun a hS => ?_⟩
   have hG219 : RdV wc211 1 v n (bv xs) := hG201.ext0 hEc211
   have hG220 : RdV wc211 1 u m (bv ys) := hG202.ext0 hEc211
   have hG221 : RpOk wc211 b17 o17 := hG203.ext0 hEc211
   have hG222 : RpOk wc211 b28 o28 := hG204.ext0 hEc211
   have hG223 : RpOk wc211 b121 o121 := hG205.ext0 hEc211
   have hG224 : RpOk wc211 b132 o132 := hG206.ext0 hEc211
   have hG225 : RpOk wc211 b143 o143 := hG207.ext0 hEc211
   have hG226 : RpOk wc211 b158 o158 := hG208.ext0 hEc211
   have hG227 : RpOk wc211 b175 o175 := hG209.ext0 hEc211
   have hE228 := hE210.trans0 hEc211
   refine sg wide_wide [.p, .p, .p, .p] [] [(0, v), (1, u), (2, I6 ↑i), (3, I6 ↑d), (8, .bool false), (23, .bool false), (9, (Pv b17)), (10, I6 0), (11, (Pv b28)), (12, I6 0), (55, .bool false), (13, (Pv b121)), (84, .bool false), (14, (Pv b132)), (15, I6 0), (16, (Pv b143)), (17, I6 0), (128, .bool false), (18, (Pv b158)), (140, .bool false), (19, (Pv b175)), (165, .bool false), (166, (Pv b121))] 20 10 hS .nil fun a hS => ?_
   refine eff_call wide_wide (r := 9) (f := 19) (vs := [(Pv b121)]) (cap := #[]) (d := (some 167)) hS (by kernel_rfl) Try.call19 #[(Pv b121)] (by kernel_rfl) ((by have h := Len_any hG223; rw [hons] at h; exact h : Calls Try.prog 19 _ _ fun e w' => e = .returned (I6 (n - d + m : Nat)) ∧ Ext [] _ w')) ?_
   rintro _ wc229 ⟨rfl, hEc229⟩
   refine ⟨_, rfl, fun a hS => ?_⟩
   have hG237 : RdV wc229 1 v n (bv xs) := hG219.ext0 hEc229
   have hG238 : RdV wc229 1 u m (bv ys) := hG220.ext0 hEc229
   have hG239 : RpOk wc229 b17 o17 := hG221.ext0 hEc229
   have hG240 : RpOk wc229 b28 o28 := hG222.ext0 hEc229
   have hG241 : RpOk wc229 b121 o121 := hG223.ext0 hEc229
   have hG242 : RpOk wc229 b132 o132 := hG224.ext0 hEc229
   have hG243 : RpOk wc229 b143 o143 := hG225.ext0 hEc229
   have hG244 : RpOk wc229 b158 o158 := hG226.ext0 hEc229
   have hG245 : RpOk wc229 b175 o175 := hG227.ext0 hEc229
   have hE246 := hE228.trans0 hEc229
   refine sg wide_wide [.p, .run (I6 ↑n), .p, .as (I6 (↑n - ↑d)), .p, .run (I6 ↑m), .as (I6 ((↑n - ↑d) + ↑m)), .as (.bool false), .p] [Ru Try.prog (vS (Builtin.len_ #[23] 3 #[v])) (I6 ↑n) wc229, Value.int .i64 (IntKind.i64.wrap (↑n - ↑d)) = I6 (↑n - ↑d), Ru Try.prog (vS (Builtin.len_ #[23] 3 #[u])) (I6 ↑m) wc229, Value.int .i64 (IntKind.i64.wrap ((↑n - ↑d) + ↑m)) = I6 ((↑n - ↑d) + ↑m), Value.bool (((((n - d + m : Nat) : Int) : Int) != ((↑n - ↑d) + ↑m))) = .bool false] [(0, v), (1, u), (2, I6 ↑i), (3, I6 ↑d), (8, .bool false), (23, .bool false), (9, (Pv b17)), (10, I6 0), (11, (Pv b28)), (12, I6 0), (55, .bool false), (13, (Pv b121)), (84, .bool false), (14, (Pv b132)), (15, I6 0), (16, (Pv b143)), (17, I6 0), (128, .bool false), (18, (Pv b158)), (140, .bool false), (19, (Pv b175)), (176, .bool false)] 30 0 hS (.cons (run_len_rd (e := 5) hv (by kernel_rfl)) (.cons (as_i64 (by omega)) (.cons (run_len_rd (e := 5) hu (by kernel_rfl)) (.cons (as_i64 (by omega)) (.cons (as_ne_f (by omega)) .nil))))) fun a hS => ?_
   refine seg_end ?_
   refine hK192 _ _ ?_
   refine cond_f hS rfl ?_
   refine wpIn_skip ?_
   refine hK191 _ _ ?_
   refine sq fun K247 hK247 => ?_
   refine rgn 12 ?_
   refine sg wide_wide [.p, .p, .p, .p, .run (I6 ↑m), .as (I6 (↑i + ↑m))] [Ru Try.prog (vS (Builtin.len_ #[23] 3 #[u])) (I6 ↑m) wc229, Value.int .i64 (IntKind.i64.wrap (↑i + ↑m)) = I6 (↑i + ↑m)] [(0, v), (1, u), (2, I6 ↑i), (3, I6 ↑d), (8, .bool false), (23, .bool false), (9, (Pv b17)), (10, I6 0), (11, (Pv b28)), (12, I6 0), (55, .bool false), (13, (Pv b121)), (84, .bool false), (14, (Pv b132)), (15, I6 0), (16, (Pv b143)), (17, I6 0), (128, .bool false), (18, (Pv b158)), (140, .bool false), (19, (Pv b175)), (176, .bool false), (178, (Pv b121)), (179, I6 ↑i), (183, I6 (↑i + ↑m))] 6 6 hS (.cons (run_len_rd (e := 5) hu (by kernel_rfl)) (.cons (as_i64 (by omega)) .nil)) fun a hS => ?_
   refine eff_call wide_wide (r := 5) (f := 20) (vs := [(Pv b121), I6 ↑i, I6 (↑i + ↑m)]) (cap := #[]) (d := (some 184)) hS (by kernel_rfl) Try.call20 #[(Pv b121), I6 ↑i, I6 (↑i + ↑m)] (by kernel_rfl) ((by have h := Cut_any (i := i) (j := i + m) hG241 ⟨by omega, by rw [hons]; omega⟩; rw [kR121, hct, Int.natCast_add] at h; exact h : Calls Try.prog 20 _ _ (RpR _ (ys)))) ?_
   rintro _ wc248 ⟨b248, o248, rfl, hR248, kR248, hEc248⟩
   refine ⟨_, rfl, fun a hS => ?_⟩
   have hG256 : RdV wc248 1 v n (bv xs) := hG237.ext0 hEc248
   have hG257 : RdV wc248 1 u m (bv ys) := hG238.ext0 hEc248
   have hG258 : RpOk wc248 b17 o17 := hG239.ext0 hEc248
   have hG259 : RpOk wc248 b28 o28 := hG240.ext0 hEc248
   have hG260 : RpOk wc248 b121 o121 := hG241.ext0 hEc248
   have hG261 : RpOk wc248 b132 o132 := hG242.ext0 hEc248
   have hG262 : RpOk wc248 b143 o143 := hG243.ext0 hEc248
   have hG263 : RpOk wc248 b158 o158 := hG244.ext0 hEc248
   have hG264 : RpOk wc248 b175 o175 := hG245.ext0 hEc248
   have hE265 := hE246.trans0 hEc248
   refine sg wide_wide [.p, .p, .p, .p, .p] [] [(0, v), (1, u), (2, I6 ↑i), (3, I6 ↑d), (8, .bool false), (23, .bool false), (9, (Pv b17)), (10, I6 0), (11, (Pv b28)), (12, I6 0), (55, .bool false), (13, (Pv b121)), (84, .bool false), (14, (Pv b132)), (15, I6 0), (16, (Pv b143)), (17, I6 0), (128, .bool false), (18, (Pv b158)), (140, .bool false), (19, (Pv b175)), (176, .bool false), (20, (Pv b248))] 12 0 hS .nil fun a hS => ?_
   refine seg_end ?_
   refine hK247 _ _ ?_
   refine sq fun K266 hK266 => ?_
   refine sq fun K267 hK267 => ?_
   refine rgn 19 ?_
   refine sg wide_wide [.p, .p, .p, .p, .p, .p, .p, .p, .p] [] [(0, v), (1, u), (2, I6 ↑i), (3, I6 ↑d), (8, .bool false), (23, .bool false), (9, (Pv b17)), (10, I6 0), (11, (Pv b28)), (12, I6 0), (55, .bool false), (13, (Pv b121)), (84, .bool false), (14, (Pv b132)), (15, I6 0), (16, (Pv b143)), (17, I6 0), (128, .bool false), (18, (Pv b158)), (140, .bool false), (19, (Pv b175)), (176, .bool false), (20, (Pv b248)), (193, .bool false), (194, (Pv b248)), (195, (Pv b28))] 9 10 hS .nil fun a hS => ?_
   refine eff_call wide_wide (r := 9) (f := 33) (vs := [(Pv b248), (Pv b28)]) (cap := #[]) (d := (some 196)) hS (by kernel_rfl) Try.call33 #[(Pv b248), (Pv b28)] (by kernel_rfl) ((by have h := EqualR_any hR248 hG259; rw [decide_eq_true (by rw [kR248, kR28])] at h; exact h : Calls Try.prog 33 _ _ fun e w' => e = .returned (.bool true) ∧ Ext [] _ w')) ?_
   rintro _ wc268 ⟨rfl, hEc268⟩
   refine ⟨_, rfl, fun a hS => ?_⟩
   have hG277 : RdV wc268 1 v n (bv xs) := hG256.ext0 hEc268
   have hG278 : RdV wc268 1 u m (bv ys) := hG257.ext0 hEc268
   have hG279 : RpOk wc268 b17 o17 := hG258.ext0 hEc268
   have hG280 : RpOk wc268 b28 o28 := hG259.ext0 hEc268
   have hG281 : RpOk wc268 b121 o121 := hG260.ext0 hEc268
   have hG282 : RpOk wc268 b132 o132 := hG261.ext0 hEc268
   have hG283 : RpOk wc268 b143 o143 := hG262.ext0 hEc268
   have hG284 : RpOk wc268 b158 o158 := hG263.ext0 hEc268
   have hG285 : RpOk wc268 b175 o175 := hG264.ext0 hEc268
   have hG286 : RpOk wc268 b248 o248 := hR248.ext0 hEc268
   have hE287 := hE265.trans0 hEc268
   refine sg wide_wide [.p, .p, .p, .p] [] [(0, v), (1, u), (2, I6 ↑i), (3, I6 ↑d), (8, .bool false), (23, .bool false), (9, (Pv b17)), (10, I6 0), (11, (Pv b28)), (12, I6 0), (55, .bool false), (13, (Pv b121)), (84, .bool false), (14, (Pv b132)), (15, I6 0), (16, (Pv b143)), (17, I6 0), (128, .bool false), (18, (Pv b158)), (140, .bool false), (19, (Pv b175)), (176, .bool false), (20, (Pv b248)), (199, .bool false), (200, (Pv b248))] 14 5 hS .nil fun a hS => ?_
   refine eff_call wide_wide (r := 4) (f := 34) (vs := [(Pv b248)]) (cap := #[]) (d := (some 201)) hS (by kernel_rfl) Try.call34 #[(Pv b248)] (by kernel_rfl) (((Byts_any hG286).mono fun e w' h => (by rw [kR248] at h; exact h.n hl2 : ByN _ m ys e w'))) ?_
   rintro _ wc288 ⟨zq288, zc288, rfl, hO288, hN288, hEc288⟩
   refine ⟨_, rfl, fun a hS => ?_⟩
   have hG297 : RdV wc288 1 v n (bv xs) := hG277.ext0 hEc288
   have hG298 : RdV wc288 1 u m (bv ys) := hG278.ext0 hEc288
   have hG299 : RpOk wc288 b17 o17 := hG279.ext0 hEc288
   have hG300 : RpOk wc288 b28 o28 := hG280.ext0 hEc288
   have hG301 : RpOk wc288 b121 o121 := hG281.ext0 hEc288
   have hG302 : RpOk wc288 b132 o132 := hG282.ext0 hEc288
   have hG303 : RpOk wc288 b143 o143 := hG283.ext0 hEc288
   have hG304 : RpOk wc288 b158 o158 := hG284.ext0 hEc288
   have hG305 : RpOk wc288 b175 o175 := hG285.ext0 hEc288
   have hG306 : RpOk wc288 b248 o248 := hG286.ext0 hEc288
   have hE307 := hE287.trans0 hEc288
   refine sg wide_wide [.p] [] [(0, v), (1, u), (2, I6 ↑i), (3, I6 ↑d), (8, .bool false), (23, .bool false), (9, (Pv b17)), (10, I6 0), (11, (Pv b28)), (12, I6 0), (55, .bool false), (13, (Pv b121)), (84, .bool false), (14, (Pv b132)), (15, I6 0), (16, (Pv b143)), (17, I6 0), (128, .bool false), (18, (Pv b158)), (140, .bool false), (19, (Pv b175)), (176, .bool false), (20, (Pv b248)), (199, .bool false), (201, .slice zq288 m zc288), (202, u)] 16 3 hS .nil fun a hS => ?_
   refine eff_call wide_wide (r := 2) (f := 31) (vs := [.slice zq288 m zc288, u]) (cap := #[]) (d := (some 203)) hS (by kernel_rfl) Try.call31 #[.slice zq288 m zc288, u] (by kernel_rfl) ((by have h := SameB_any hO288.rd hG298 (by omega); rw [decide_eq_true rfl] at h; exact h : Calls Try.prog 31 _ _ fun e w' => e = .returned (.bool true) ∧ Ext [] _ w')) ?_
   rintro _ wc308 ⟨rfl, hEc308⟩
   refine ⟨_, rfl, fun a hS => ?_⟩
   have hG317 : RdV wc308 1 v n (bv xs) := hG297.ext0 hEc308
   have hG318 : RdV wc308 1 u m (bv ys) := hG298.ext0 hEc308
   have hG319 : RpOk wc308 b17 o17 := hG299.ext0 hEc308
   have hG320 : RpOk wc308 b28 o28 := hG300.ext0 hEc308
   have hG321 : RpOk wc308 b121 o121 := hG301.ext0 hEc308
   have hG322 : RpOk wc308 b132 o132 := hG302.ext0 hEc308
   have hG323 : RpOk wc308 b143 o143 := hG303.ext0 hEc308
   have hG324 : RpOk wc308 b158 o158 := hG304.ext0 hEc308
   have hG325 : RpOk wc308 b175 o175 := hG305.ext0 hEc308
   have hG326 : RpOk wc308 b248 o248 := hG306.ext0 hEc308
   have hE327 := hE307.trans0 hEc308
   refine sg wide_wide [.p, .p] [] [(0, v), (1, u), (2, I6 ↑i), (3, I6 ↑d), (8, .bool false), (23, .bool false), (9, (Pv b17)), (10, I6 0), (11, (Pv b28)), (12, I6 0), (55, .bool false), (13, (Pv b121)), (84, .bool false), (14, (Pv b132)), (15, I6 0), (16, (Pv b143)), (17, I6 0), (128, .bool false), (18, (Pv b158)), (140, .bool false), (19, (Pv b175)), (176, .bool false), (20, (Pv b248)), (205, .bool false)] 19 0 hS .nil fun a hS => ?_
   refine seg_end ?_
   refine hK267 _ _ ?_
   refine cond_f hS rfl ?_
   refine wpIn_skip ?_
   refine hK266 _ _ ?_
   refine sq fun K328 hK328 => ?_
   refine rgn 17 ?_
   refine sg wide_wide [.p, .p, .p, .run (I6 ↑m), .p, .p, .p, .p, .as (I6 ((i + d : Nat) : Int)), .run (rsub v i (i + d) (capOf v))] [Ru Try.prog (vS (Builtin.len_ #[23] 3 #[u])) (I6 ↑m) wc308, Value.int .i64 (IntKind.i64.wrap (↑i + ↑d)) = I6 ((i + d : Nat) : Int), Ru Try.prog (vS (Instr.sliceAt 23 v (some (I6 ↑i)) (some (I6 ((i + d : Nat) : Int))) none)) (rsub v i (i + d) (capOf v)) wc308] [(0, v), (1, u), (2, I6 ↑i), (3, I6 ↑d), (8, .bool false), (23, .bool false), (9, (Pv b17)), (10, I6 0), (11, (Pv b28)), (12, I6 0), (55, .bool false), (13, (Pv b121)), (84, .bool false), (14, (Pv b132)), (15, I6 0), (16, (Pv b143)), (17, I6 0), (128, .bool false), (18, (Pv b158)), (140, .bool false), (19, (Pv b175)), (176, .bool false), (20, (Pv b248)), (205, .bool false), (207, (Pv b121)), (208, I6 ↑i), (210, I6 ↑m), (216, (rsub v i (i + d) (capOf v)))] 10 7 hS (.cons (run_len_rd (e := 5) hu (by kernel_rfl)) (.cons ((by rw [show (↑i + ↑d : Int) = ((i + d : Nat) : Int) from by omega]; exact as_i64 (by omega))) (.cons (sl_rd (e := 5) (some (I6 ↑i)) (some (I6 ((i + d : Nat) : Int))) (l := i) (k := (i + d)) hv (by kernel_rfl) (by kernel_rfl) (.inr ⟨_, rfl⟩) (.inr ⟨_, rfl⟩) (by omega) (by omega)) .nil))) fun a hS => ?_
   have hpl : ((xs.drop i).take (i + d - i)).length = i + d - i := by rw [List.length_take, List.length_drop]; omega
   refine eff_call wide_wide (r := 6) (f := 14) (vs := [(rsub v i (i + d) (capOf v))]) (cap := #[]) (d := (some 217)) hS (by kernel_rfl) Try.call14 #[(rsub v i (i + d) (capOf v))] (by kernel_rfl) (Lend_any (RdV.subb hG317 (l := i) (k := (i + d)) (m := (capOf v)) (by omega) (by omega) (by have := hG317.le_cap; omega)) (by omega)) ?_
   rintro _ wc329 ⟨g329, rfl, hL329, hgn329, hEc329⟩
   refine ⟨_, rfl, fun a hS => ?_⟩
   have hG338 : RdV wc329 1 v n (bv xs) := hG317.ext0 hEc329
   have hG339 : RdV wc329 1 u m (bv ys) := hG318.ext0 hEc329
   have hG340 : RpOk wc329 b17 o17 := hG319.ext0 hEc329
   have hG341 : RpOk wc329 b28 o28 := hG320.ext0 hEc329
   have hG342 : RpOk wc329 b121 o121 := hG321.ext0 hEc329
   have hG343 : RpOk wc329 b132 o132 := hG322.ext0 hEc329
   have hG344 : RpOk wc329 b143 o143 := hG323.ext0 hEc329
   have hG345 : RpOk wc329 b158 o158 := hG324.ext0 hEc329
   have hG346 : RpOk wc329 b175 o175 := hG325.ext0 hEc329
   have hG347 : RpOk wc329 b248 o248 := hG326.ext0 hEc329
   have hG348 : RdV wc329 1 (rsub v i (i + d) (capOf v)) ((i + d) - i) (bv ((xs.drop i).take ((i + d) - i))) := (RdV.subb hG317 (l := i) (k := (i + d)) (m := (capOf v)) (by omega) (by omega) (by have := hG317.le_cap; omega)).ext0 hEc329
   have hE349 := hE327.trans0 hEc329
   refine eff_call wide_wide (r := 5) (f := 23) (vs := [(Pv b121), I6 ↑i, I6 ↑m, .slice (some ⟨g329, 0, none⟩) (i + d - i) ((i + d - i) + 5)]) (cap := #[]) (d := (some 218)) hS (by kernel_rfl) Try.call23 #[(Pv b121), I6 ↑i, I6 ↑m, .slice (some ⟨g329, 0, none⟩) (i + d - i) ((i + d - i) + 5)] (by kernel_rfl) ((by have h := Splice_any (i := i) (d := m) hG342 (lent_rd hL329 hpl) ((hB.drop _).take _) (by omega) (by rw [hons]; omega) (by rw [hons]; omega); rw [kR121, hbk] at h; exact h : Calls Try.prog 23 _ _ (RpR _ (xs)))) ?_
   rintro _ wc350 ⟨b350, o350, rfl, hR350, kR350, hEc350⟩
   refine ⟨_, rfl, fun a hS => ?_⟩
   have hG359 : RdV wc350 1 v n (bv xs) := hG338.ext0 hEc350
   have hG360 : RdV wc350 1 u m (bv ys) := hG339.ext0 hEc350
   have hG361 : RpOk wc350 b17 o17 := hG340.ext0 hEc350
   have hG362 : RpOk wc350 b28 o28 := hG341.ext0 hEc350
   have hG363 : RpOk wc350 b121 o121 := hG342.ext0 hEc350
   have hG364 : RpOk wc350 b132 o132 := hG343.ext0 hEc350
   have hG365 : RpOk wc350 b143 o143 := hG344.ext0 hEc350
   have hG366 : RpOk wc350 b158 o158 := hG345.ext0 hEc350
   have hG367 : RpOk wc350 b175 o175 := hG346.ext0 hEc350
   have hG368 : RpOk wc350 b248 o248 := hG347.ext0 hEc350
   have hG369 : RdV wc350 1 (rsub v i (i + d) (capOf v)) ((i + d) - i) (bv ((xs.drop i).take ((i + d) - i))) := hG348.ext0 hEc350
   have hE370 := hE349.trans0 hEc350
   refine sg wide_wide [.p, .p, .p, .p, .p] [] [(0, v), (1, u), (2, I6 ↑i), (3, I6 ↑d), (8, .bool false), (23, .bool false), (9, (Pv b17)), (10, I6 0), (11, (Pv b28)), (12, I6 0), (55, .bool false), (13, (Pv b121)), (84, .bool false), (14, (Pv b132)), (15, I6 0), (16, (Pv b143)), (17, I6 0), (128, .bool false), (18, (Pv b158)), (140, .bool false), (19, (Pv b175)), (176, .bool false), (20, (Pv b248)), (205, .bool false), (21, (Pv b350))] 17 0 hS .nil fun a hS => ?_
   refine seg_end ?_
   refine hK328 _ _ ?_
   refine sq fun K371 hK371 => ?_
   refine rgn 24 ?_
   refine sg wide_wide [.p, .p, .p, .p, .p, .p, .p, .p, .p] [] [(0, v), (1, u), (2, I6 ↑i), (3, I6 ↑d), (8, .bool false), (23, .bool false), (9, (Pv b17)), (10, I6 0), (11, (Pv b28)), (12, I6 0), (55, .bool false), (13, (Pv b121)), (84, .bool false), (14, (Pv b132)), (15, I6 0), (16, (Pv b143)), (17, I6 0), (128, .bool false), (18, (Pv b158)), (140, .bool false), (19, (Pv b175)), (176, .bool false), (20, (Pv b248)), (205, .bool false), (21, (Pv b350)), (227, .bool true), (228, (Pv b350)), (229, (Pv b17))] 9 15 hS .nil fun a hS => ?_
   refine eff_call wide_wide (r := 14) (f := 33) (vs := [(Pv b350), (Pv b17)]) (cap := #[]) (d := (some 230)) hS (by kernel_rfl) Try.call33 #[(Pv b350), (Pv b17)] (by kernel_rfl) ((by have h := EqualR_any hR350 hG361; rw [decide_eq_true (by rw [kR350, kR17])] at h; exact h : Calls Try.prog 33 _ _ fun e w' => e = .returned (.bool true) ∧ Ext [] _ w')) ?_
   rintro _ wc372 ⟨rfl, hEc372⟩
   refine ⟨_, rfl, fun a hS => ?_⟩
   have hG382 : RdV wc372 1 v n (bv xs) := hG359.ext0 hEc372
   have hG383 : RdV wc372 1 u m (bv ys) := hG360.ext0 hEc372
   have hG384 : RpOk wc372 b17 o17 := hG361.ext0 hEc372
   have hG385 : RpOk wc372 b28 o28 := hG362.ext0 hEc372
   have hG386 : RpOk wc372 b121 o121 := hG363.ext0 hEc372
   have hG387 : RpOk wc372 b132 o132 := hG364.ext0 hEc372
   have hG388 : RpOk wc372 b143 o143 := hG365.ext0 hEc372
   have hG389 : RpOk wc372 b158 o158 := hG366.ext0 hEc372
   have hG390 : RpOk wc372 b175 o175 := hG367.ext0 hEc372
   have hG391 : RpOk wc372 b248 o248 := hG368.ext0 hEc372
   have hG392 : RdV wc372 1 (rsub v i (i + d) (capOf v)) ((i + d) - i) (bv ((xs.drop i).take ((i + d) - i))) := hG369.ext0 hEc372
   have hG393 : RpOk wc372 b350 o350 := hR350.ext0 hEc372
   have hE394 := hE370.trans0 hEc372
   refine sg wide_wide [.p, .p, .p] [] [(0, v), (1, u), (2, I6 ↑i), (3, I6 ↑d), (8, .bool false), (23, .bool false), (9, (Pv b17)), (10, I6 0), (11, (Pv b28)), (12, I6 0), (55, .bool false), (13, (Pv b121)), (84, .bool false), (14, (Pv b132)), (15, I6 0), (16, (Pv b143)), (17, I6 0), (128, .bool false), (18, (Pv b158)), (140, .bool false), (19, (Pv b175)), (176, .bool false), (20, (Pv b248)), (205, .bool false), (21, (Pv b350)), (232, .bool true), (233, (Pv b350))] 13 11 hS .nil fun a hS => ?_
   refine eff_call wide_wide (r := 10) (f := 34) (vs := [(Pv b350)]) (cap := #[]) (d := (some 234)) hS (by kernel_rfl) Try.call34 #[(Pv b350)] (by kernel_rfl) (((Byts_any hG393).mono fun e w' h => (by rw [kR350] at h; exact h.n hl : ByN _ n xs e w'))) ?_
   rintro _ wc395 ⟨zq395, zc395, rfl, hO395, hN395, hEc395⟩
   refine ⟨_, rfl, fun a hS => ?_⟩
   have hG405 : RdV wc395 1 v n (bv xs) := hG382.ext0 hEc395
   have hG406 : RdV wc395 1 u m (bv ys) := hG383.ext0 hEc395
   have hG407 : RpOk wc395 b17 o17 := hG384.ext0 hEc395
   have hG408 : RpOk wc395 b28 o28 := hG385.ext0 hEc395
   have hG409 : RpOk wc395 b121 o121 := hG386.ext0 hEc395
   have hG410 : RpOk wc395 b132 o132 := hG387.ext0 hEc395
   have hG411 : RpOk wc395 b143 o143 := hG388.ext0 hEc395
   have hG412 : RpOk wc395 b158 o158 := hG389.ext0 hEc395
   have hG413 : RpOk wc395 b175 o175 := hG390.ext0 hEc395
   have hG414 : RpOk wc395 b248 o248 := hG391.ext0 hEc395
   have hG415 : RdV wc395 1 (rsub v i (i + d) (capOf v)) ((i + d) - i) (bv ((xs.drop i).take ((i + d) - i))) := hG392.ext0 hEc395
   have hG416 : RpOk wc395 b350 o350 := hG393.ext0 hEc395
   have hE417 := hE394.trans0 hEc395
   refine sg wide_wide [.p] [] [(0, v), (1, u), (2, I6 ↑i), (3, I6 ↑d), (8, .bool false), (23, .bool false), (9, (Pv b17)), (10, I6 0), (11, (Pv b28)), (12, I6 0), (55, .bool false), (13, (Pv b121)), (84, .bool false), (14, (Pv b132)), (15, I6 0), (16, (Pv b143)), (17, I6 0), (128, .bool false), (18, (Pv b158)), (140, .bool false), (19, (Pv b175)), (176, .bool false), (20, (Pv b248)), (205, .bool false), (21, (Pv b350)), (232, .bool true), (234, .slice zq395 n zc395), (235, v)] 15 9 hS .nil fun a hS => ?_
   refine eff_call wide_wide (r := 8) (f := 31) (vs := [.slice zq395 n zc395, v]) (cap := #[]) (d := (some 236)) hS (by kernel_rfl) Try.call31 #[.slice zq395 n zc395, v] (by kernel_rfl) ((by have h := SameB_any hO395.rd hG405 (by omega); rw [decide_eq_true rfl] at h; exact h : Calls Try.prog 31 _ _ fun e w' => e = .returned (.bool true) ∧ Ext [] _ w')) ?_
   rintro _ wc418 ⟨rfl, hEc418⟩
   refine ⟨_, rfl, fun a hS => ?_⟩
   have hG428 : RdV wc418 1 v n (bv xs) := hG405.ext0 hEc418
   have hG429 : RdV wc418 1 u m (bv ys) := hG406.ext0 hEc418
   have hG430 : RpOk wc418 b17 o17 := hG407.ext0 hEc418
   have hG431 : RpOk wc418 b28 o28 := hG408.ext0 hEc418
   have hG432 : RpOk wc418 b121 o121 := hG409.ext0 hEc418
   have hG433 : RpOk wc418 b132 o132 := hG410.ext0 hEc418
   have hG434 : RpOk wc418 b143 o143 := hG411.ext0 hEc418
   have hG435 : RpOk wc418 b158 o158 := hG412.ext0 hEc418
   have hG436 : RpOk wc418 b175 o175 := hG413.ext0 hEc418
   have hG437 : RpOk wc418 b248 o248 := hG414.ext0 hEc418
   have hG438 : RdV wc418 1 (rsub v i (i + d) (capOf v)) ((i + d) - i) (bv ((xs.drop i).take ((i + d) - i))) := hG415.ext0 hEc418
   have hG439 : RpOk wc418 b350 o350 := hG416.ext0 hEc418
   have hE440 := hE417.trans0 hEc418
   refine sg wide_wide [.p, .p, .p] [] [(0, v), (1, u), (2, I6 ↑i), (3, I6 ↑d), (8, .bool false), (23, .bool false), (9, (Pv b17)), (10, I6 0), (11, (Pv b28)), (12, I6 0), (55, .bool false), (13, (Pv b121)), (84, .bool false), (14, (Pv b132)), (15, I6 0), (16, (Pv b143)), (17, I6 0), (128, .bool false), (18, (Pv b158)), (140, .bool false), (19, (Pv b175)), (176, .bool false), (20, (Pv b248)), (205, .bool false), (21, (Pv b350)), (238, .bool true), (239, (Pv b17))] 19 5 hS .nil fun a hS => ?_
   refine eff_call wide_wide (r := 4) (f := 34) (vs := [(Pv b17)]) (cap := #[]) (d := (some 240)) hS (by kernel_rfl) Try.call34 #[(Pv b17)] (by kernel_rfl) (((Byts_any hG430).mono fun e w' h => (by rw [kR17] at h; exact h.n hl : ByN _ n xs e w'))) ?_
   rintro _ wc441 ⟨zq441, zc441, rfl, hO441, hN441, hEc441⟩
   refine ⟨_, rfl, fun a hS => ?_⟩
   have hG451 : RdV wc441 1 v n (bv xs) := hG428.ext0 hEc441
   have hG452 : RdV wc441 1 u m (bv ys) := hG429.ext0 hEc441
   have hG453 : RpOk wc441 b17 o17 := hG430.ext0 hEc441
   have hG454 : RpOk wc441 b28 o28 := hG431.ext0 hEc441
   have hG455 : RpOk wc441 b121 o121 := hG432.ext0 hEc441
   have hG456 : RpOk wc441 b132 o132 := hG433.ext0 hEc441
   have hG457 : RpOk wc441 b143 o143 := hG434.ext0 hEc441
   have hG458 : RpOk wc441 b158 o158 := hG435.ext0 hEc441
   have hG459 : RpOk wc441 b175 o175 := hG436.ext0 hEc441
   have hG460 : RpOk wc441 b248 o248 := hG437.ext0 hEc441
   have hG461 : RdV wc441 1 (rsub v i (i + d) (capOf v)) ((i + d) - i) (bv ((xs.drop i).take ((i + d) - i))) := hG438.ext0 hEc441
   have hG462 : RpOk wc441 b350 o350 := hG439.ext0 hEc441
   have hE463 := hE440.trans0 hEc441
   refine sg wide_wide [.p] [] [(0, v), (1, u), (2, I6 ↑i), (3, I6 ↑d), (8, .bool false), (23, .bool false), (9, (Pv b17)), (10, I6 0), (11, (Pv b28)), (12, I6 0), (55, .bool false), (13, (Pv b121)), (84, .bool false), (14, (Pv b132)), (15, I6 0), (16, (Pv b143)), (17, I6 0), (128, .bool false), (18, (Pv b158)), (140, .bool false), (19, (Pv b175)), (176, .bool false), (20, (Pv b248)), (205, .bool false), (21, (Pv b350)), (238, .bool true), (240, .slice zq441 n zc441), (241, v)] 21 3 hS .nil fun a hS => ?_
   refine eff_call wide_wide (r := 2) (f := 31) (vs := [.slice zq441 n zc441, v]) (cap := #[]) (d := (some 242)) hS (by kernel_rfl) Try.call31 #[.slice zq441 n zc441, v] (by kernel_rfl) ((by have h := SameB_any hO441.rd hG451 (by omega); rw [decide_eq_true rfl] at h; exact h : Calls Try.prog 31 _ _ fun e w' => e = .returned (.bool true) ∧ Ext [] _ w')) ?_
   rintro _ wc464 ⟨rfl, hEc464⟩
   refine ⟨_, rfl, fun a hS => ?_⟩
   have hG474 : RdV wc464 1 v n (bv xs) := hG451.ext0 hEc464
   have hG475 : RdV wc464 1 u m (bv ys) := hG452.ext0 hEc464
   have hG476 : RpOk wc464 b17 o17 := hG453.ext0 hEc464
   have hG477 : RpOk wc464 b28 o28 := hG454.ext0 hEc464
   have hG478 : RpOk wc464 b121 o121 := hG455.ext0 hEc464
   have hG479 : RpOk wc464 b132 o132 := hG456.ext0 hEc464
   have hG480 : RpOk wc464 b143 o143 := hG457.ext0 hEc464
   have hG481 : RpOk wc464 b158 o158 := hG458.ext0 hEc464
   have hG482 : RpOk wc464 b175 o175 := hG459.ext0 hEc464
   have hG483 : RpOk wc464 b248 o248 := hG460.ext0 hEc464
   have hG484 : RdV wc464 1 (rsub v i (i + d) (capOf v)) ((i + d) - i) (bv ((xs.drop i).take ((i + d) - i))) := hG461.ext0 hEc464
   have hG485 : RpOk wc464 b350 o350 := hG462.ext0 hEc464
   have hE486 := hE463.trans0 hEc464
   refine sg wide_wide [.p, .p] [] [(0, v), (1, u), (2, I6 ↑i), (3, I6 ↑d), (8, .bool true), (23, .bool false), (9, (Pv b17)), (10, I6 0), (11, (Pv b28)), (12, I6 0), (55, .bool false), (13, (Pv b121)), (84, .bool false), (14, (Pv b132)), (15, I6 0), (16, (Pv b143)), (17, I6 0), (128, .bool false), (18, (Pv b158)), (140, .bool false), (19, (Pv b175)), (176, .bool false), (20, (Pv b248)), (205, .bool false), (21, (Pv b350))] 24 0 hS .nil fun a hS => ?_
   refine seg_end ?_
   refine hK371 _ _ ?_
   refine wpIn_ret ?_
   refine ret1 hS Try.results9 rfl ?_
   exact ⟨rfl, hE486⟩

end Go.Proofs.Ytkdbfjomjlhfbaa
