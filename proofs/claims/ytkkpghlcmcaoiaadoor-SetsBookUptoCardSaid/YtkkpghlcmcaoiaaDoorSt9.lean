import Derived.Test.YtkkpghlcmcaoiaaDoorS13
import Derived.Test.YtkkpghlcmcaoiaaDoorSt7
namespace Go.Proofs.YtkkpghlcmcaoiaaDoor
open Go.Vc Go.Gm
def cmpI (x y : Int) : Int := if x < y then -1 else if y < x then 1 else 0
theorem ivs_at' {vs : List Nat} {j : Nat} {v : Nat} (h : vs[j]? = some v) : (ivs vs)[j * 1]? = some (I6 (v : Int)) := by rw [Nat.mul_one, ivs, List.getElem?_map, h]; rfl
theorem lex_at {a b : List Nat} {i x y : Nat} (h1 : a[i]? = some x) (h2 : b[i]? = some y) : lex (a.drop i) (b.drop i) ↔ x < y ∨ (x = y ∧ lex (a.drop (i + 1)) (b.drop (i + 1))) := by rw [drop_of h1, drop_of h2]; rfl
theorem lex_end1 {a b : List Nat} {i : Nat} (h1 : i < a.length) (h2 : b.length ≤ i) : ¬lex (a.drop i) (b.drop i) := by
 rw [List.drop_eq_nil_of_le h2]
 cases hx : a.drop i with
 | nil => exact id
 | cons x l => exact id
theorem lex_end2 {a b : List Nat} {i : Nat} (h1 : a.length ≤ i) : lex (a.drop i) (b.drop i) ↔ i < b.length := by
 rw [List.drop_eq_nil_of_le h1]
 rcases Nat.lt_or_ge i b.length with h | h
 ·have : b.drop i ≠ [] := fun h2 => by have := congrArg List.length h2; rw [List.length_drop] at this; simp at this; omega
  cases hx : b.drop i with
  | nil => exact absurd hx this
  | cons x l => exact ⟨fun _ => h, fun _ => trivial⟩
 ·rw [List.drop_eq_nil_of_le h]
  exact ⟨fun h => h.elim, fun h2 => by omega⟩
theorem isNaN_any {w : World} (x : Int) :
  Calls Tryd.prog 112 #[I6 x] w fun e w' => e = .returned (.bool false) ∧ Ext [] w w' := by
 refine cbd 6 [(0, I6 x)] Tryd.func112 rfl fun a hS => ?_
 have hE0 : Ext [] w w := Ext.refl _ _
 refine sq fun K1 hK1 => rgn 1 <| sg ww [.p] [] [(0, I6 x), (2, .bool false)] 1 0 hS .nil fun a hS => sge hK1 <| sdq 4 [.p, .p, .as (.bool false), .p] [Value.bool (((x : Int) != x)) = .bool false] [] [] hS (.c (as_ne_f (rfl)) .nil) fun a hS => wpIn_ret ?_
 refine ret1 hS Tryd.results112 rfl ?_
 exact ⟨rfl, hE0⟩
theorem cmp_any {w : World} (x y : Int) :
  Calls Tryd.prog 109 #[I6 x, I6 y] w fun e w' => e = .returned (I6 (cmpI x y)) ∧ Ext [] w w' := by
 refine cbd 20 [(0, I6 x), (1, I6 y)] Tryd.func109 rfl fun a hS => ?_
 have hE0 : Ext [] w w := Ext.refl _ _
 refine sq fun K1 hK1 => ?_
 rcases (show (x < y) ∨ (y < x) ∨ (x = y) from by omega) with h1 | h1 | h1
 ·
  refine rgn 1 <| sd ww [.p] [] [(4, I6 0)] [] 1 0 hS .nil fun a hS => sge hK1 <| sq fun K2 hK2 => rgn 3 <| sd ww [.p] [] [(7, I6 x)] [] 1 2 hS .nil fun a hS => ecl 1 (some 8) hS Tryd.call112 #[I6 x] (isNaN_any _) ?_
  rintro _ wc3 ⟨rfl, hEc3⟩
  refine ⟨_, rfl, fun a hS => ?_⟩
  have hE4 := hE0.trans0 hEc3
  refine sd ww [.p] [] [(5, .bool false)] [] 3 0 hS .nil fun a hS => sge hK2 <| sq fun K5 hK5 => rgn 3 <| sd ww [.p] [] [(9, I6 y)] [] 1 2 hS .nil fun a hS => ecl 1 (some 10) hS Tryd.call112 #[I6 y] (isNaN_any _) ?_
  rintro _ wc6 ⟨rfl, hEc6⟩
  refine ⟨_, rfl, fun a hS => ?_⟩
  have hE7 := hE4.trans0 hEc6
  refine sd ww [.p] [] [(6, .bool false)] [] 3 0 hS .nil fun a hS => sge hK5 <| sq fun K8 hK8 => sdq 1 [.p] [] [(11, .bool false)] [] hS .nil fun a hS => ?_
  refine cond_f hS rfl ?_
  refine wpIn_skip <| hK8 _ _ <| sq fun K10 hK10 => sq fun K11 hK11 => rgn 1 <| sg ww [.p] [] [(0, I6 x), (1, I6 y), (4, I6 0), (5, .bool false), (6, .bool false), (11, .bool false), (13, .bool false)] 1 0 hS .nil fun a hS => sge hK11 ?_
  refine cond_f hS rfl ?_
  refine wpIn_skip <| hK10 _ _ <| sq fun K12 hK12 => sdq 3 [.p, .p, .as (.bool true)] [Value.bool (decide ((x : Int) < y)) = .bool true] [(16, .bool true)] [] hS (.c (as_t (by omega)) .nil) fun a hS => ?_
  refine cond_t hS rfl ?_
  refine sdq 1 [.p] [] [(4, I6 (-1))] [] hS .nil fun a hS => wpIn_ret <| then_ret ?_
  refine ret1 hS Tryd.results109 rfl ?_
  exact ⟨by rw [show cmpI x y = -1 from if_pos h1], hE7⟩
 ·
  refine rgn 1 <| sd ww [.p] [] [(4, I6 0)] [] 1 0 hS .nil fun a hS => sge hK1 <| sq fun K15 hK15 => rgn 3 <| sd ww [.p] [] [(7, I6 x)] [] 1 2 hS .nil fun a hS => ecl 1 (some 8) hS Tryd.call112 #[I6 x] (isNaN_any _) ?_
  rintro _ wc16 ⟨rfl, hEc16⟩
  refine ⟨_, rfl, fun a hS => ?_⟩
  have hE17 := hE0.trans0 hEc16
  refine sd ww [.p] [] [(5, .bool false)] [] 3 0 hS .nil fun a hS => sge hK15 <| sq fun K18 hK18 => rgn 3 <| sd ww [.p] [] [(9, I6 y)] [] 1 2 hS .nil fun a hS => ecl 1 (some 10) hS Tryd.call112 #[I6 y] (isNaN_any _) ?_
  rintro _ wc19 ⟨rfl, hEc19⟩
  refine ⟨_, rfl, fun a hS => ?_⟩
  have hE20 := hE17.trans0 hEc19
  refine sd ww [.p] [] [(6, .bool false)] [] 3 0 hS .nil fun a hS => sge hK18 <| sq fun K21 hK21 => sdq 1 [.p] [] [(11, .bool false)] [] hS .nil fun a hS => ?_
  refine cond_f hS rfl ?_
  refine wpIn_skip <| hK21 _ _ <| sq fun K23 hK23 => sq fun K24 hK24 => rgn 1 <| sg ww [.p] [] [(0, I6 x), (1, I6 y), (4, I6 0), (5, .bool false), (6, .bool false), (11, .bool false), (13, .bool false)] 1 0 hS .nil fun a hS => sge hK24 ?_
  refine cond_f hS rfl ?_
  refine wpIn_skip <| hK23 _ _ <| sq fun K25 hK25 => sdq 3 [.p, .p, .as (.bool false)] [Value.bool (decide ((x : Int) < y)) = .bool false] [(16, .bool false)] [] hS (.c (as_f (by omega)) .nil) fun a hS => ?_
  refine cond_f hS rfl ?_
  refine wpIn_skip <| hK25 _ _ <| sq fun K27 hK27 => sdq 3 [.p, .p, .as (.bool true)] [Value.bool (decide ((x : Int) > y)) = .bool true] [(19, .bool true)] [] hS (.c (as_t (by omega)) .nil) fun a hS => ?_
  refine cond_t hS rfl ?_
  refine sdq 1 [.p] [] [(4, I6 1)] [] hS .nil fun a hS => wpIn_ret <| then_ret ?_
  refine ret1 hS Tryd.results109 rfl ?_
  exact ⟨by rw [show cmpI x y = 1 from by rw [cmpI, if_neg (by omega), if_pos h1]], hE20⟩
 ·
  refine rgn 1 <| sd ww [.p] [] [(4, I6 0)] [] 1 0 hS .nil fun a hS => sge hK1 <| sq fun K30 hK30 => rgn 3 <| sd ww [.p] [] [(7, I6 x)] [] 1 2 hS .nil fun a hS => ecl 1 (some 8) hS Tryd.call112 #[I6 x] (isNaN_any _) ?_
  rintro _ wc31 ⟨rfl, hEc31⟩
  refine ⟨_, rfl, fun a hS => ?_⟩
  have hE32 := hE0.trans0 hEc31
  refine sd ww [.p] [] [(5, .bool false)] [] 3 0 hS .nil fun a hS => sge hK30 <| sq fun K33 hK33 => rgn 3 <| sd ww [.p] [] [(9, I6 y)] [] 1 2 hS .nil fun a hS => ecl 1 (some 10) hS Tryd.call112 #[I6 y] (isNaN_any _) ?_
  rintro _ wc34 ⟨rfl, hEc34⟩
  refine ⟨_, rfl, fun a hS => ?_⟩
  have hE35 := hE32.trans0 hEc34
  refine sd ww [.p] [] [(6, .bool false)] [] 3 0 hS .nil fun a hS => sge hK33 <| sq fun K36 hK36 => sdq 1 [.p] [] [(11, .bool false)] [] hS .nil fun a hS => ?_
  refine cond_f hS rfl ?_
  refine wpIn_skip <| hK36 _ _ <| sq fun K38 hK38 => sq fun K39 hK39 => rgn 1 <| sg ww [.p] [] [(0, I6 x), (1, I6 y), (4, I6 0), (5, .bool false), (6, .bool false), (11, .bool false), (13, .bool false)] 1 0 hS .nil fun a hS => sge hK39 ?_
  refine cond_f hS rfl ?_
  refine wpIn_skip <| hK38 _ _ <| sq fun K40 hK40 => sdq 3 [.p, .p, .as (.bool false)] [Value.bool (decide ((x : Int) < y)) = .bool false] [(16, .bool false)] [] hS (.c (as_f (by omega)) .nil) fun a hS => ?_
  refine cond_f hS rfl ?_
  refine wpIn_skip <| hK40 _ _ <| sq fun K42 hK42 => sdq 3 [.p, .p, .as (.bool false)] [Value.bool (decide ((x : Int) > y)) = .bool false] [(19, .bool false)] [] hS (.c (as_f (by omega)) .nil) fun a hS => ?_
  refine cond_f hS rfl ?_
  refine wpIn_skip <| hK42 _ _ <| sdq 1 [.p] [] [] [] hS .nil fun a hS => wpIn_ret ?_
  refine ret1 hS Tryd.results109 rfl ?_
  exact ⟨by rw [show cmpI x y = 0 from by rw [cmpI, if_neg (by omega), if_neg (by omega)]], hE35⟩
theorem compare_any {w : World} {v u : Value} {n m : Nat} {xs ys : List Nat} (hv : RdV w 1 v n (ivs xs)) (hu : RdV w 1 u m (ivs ys)) (hn : n ≤ 1048576) (hm : m ≤ 1048576) :
  Calls Tryd.prog 97 #[v, u] w fun e w' => ∃ z : Int, e = .returned (I6 z) ∧ (z < 0 ↔ lex xs ys) ∧ Ext [] w w' := by
 have hla : xs.length = n := by have := hv.len; rw [ivs_len] at this; omega
 have hlb : ys.length = m := by have := hu.len; rw [ivs_len] at this; omega
 refine cbd 36 [(0, v), (1, u)] Tryd.func97 rfl fun a hS => ?_
 have hE0 : Ext [] w w := Ext.refl _ _
 refine sq fun K1 hK1 => rgn 1 <| sg ww [.p] [] [(0, v), (1, u), (4, I6 0)] 1 0 hS .nil fun a hS => sge hK1 <| sq fun K2 hK2 => sdq 3 [.p, .run (I6 n), .p] [Rv (Builtin.len_ #[51] 3 #[v]) (I6 n) w] [(9, v), (10, I6 n), (11, I6 0)] [] hS (.c (rlr 3 hv) .nil) fun a hS => wpIn_block ?_
 refine loop_ghost (fun (i : Nat) a' w' => St 36 [] [(0, v), (1, u), (9, v), (10, I6 n), (11, I6 i)] a' ∧ Ext [] w w' ∧ i ≤ n ∧ (lex xs ys ↔ lex (xs.drop i) (ys.drop i))) (fun (i : Nat) => n - i) 0 ⟨hS.keepTo [0, 1, 9, 10, 11] (by kernel_rfl), hE0, by omega, Iff.rfl⟩ ?_
 rintro i a wl4 ⟨hS, hXl4, hi, hl⟩
 refine sdq 1 [.p] [] [(12, .bool (decide ((↑i : Int) < ↑n)))] [] hS .nil fun a hS => sq fun K6 hK6 => ?_
 refine cond_b hS rfl (fun hb7 => ?_) (fun hb7 => ?_)
 ·
  replace hb7 := of_decide_eq_true hb7
  obtain ⟨x, hx⟩ : ∃ x, xs[i]? = some x := gE
  refine wpIn_skip <| hK6 _ _ <| sq fun K8 hK8 => wpIn_block <| sdq 5 [.p, .run ((Po (bof v) (oof v + i * 1))), .ld (I6 x), .p, .p] [Rv (Instr.indexAt 51 (v) (I6 i)) ((Po (bof v) (oof v + i * 1))) wl4, wl4.cell? ⟨bof v, oof v + i * 1, none⟩ = some (I6 x)] [(5, I6 i), (6, I6 x)] [] hS (.c (ixr 3 i hv) (.c ((hv.ext0 hXl4).cellAt (i * 1) (by omega) (ivs_at' hx)) .nil)) fun a hS => sq fun K10 hK10 => sdq 4 [.p, .p, .run (I6 m), .p] [Rv (Builtin.len_ #[51] 3 #[u]) (I6 m) wl4] [(19, .bool (decide ((↑i : Int) ≥ ↑m)))] [] hS (.c (rlr 3 hu) .nil) fun a hS => ?_
  refine cond_b hS rfl (fun hb12 => ?_) (fun hb12 => ?_)
  ·
   replace hb12 := of_decide_eq_true hb12
   refine sdq 1 [.p] [] [(4, I6 1)] [] hS .nil fun a hS => wpIn_ret <| then_ret <| inBlock_ret <| then_ret <| then_ret <| inBlock_ret <| then_ret ?_
   refine ret1 hS Tryd.results97 rfl ?_
   exact ⟨_, rfl, ⟨fun h => by omega, fun h => absurd (hl.1 h) (lex_end1 (by omega) (by omega))⟩, hXl4⟩
  ·
   replace hb12 := of_decide_eq_false hb12
   obtain ⟨y, hy⟩ : ∃ y, ys[i]? = some y := gE
   rw [lex_at hx hy] at hl
   refine wpIn_skip <| hK10 _ _ <| sdq 5 [.p, .p, .run ((Po (bof u) (oof u + i * 1))), .ld (I6 y), .p] [Rv (Instr.indexAt 51 (u) (I6 i)) ((Po (bof u) (oof u + i * 1))) wl4, wl4.cell? ⟨bof u, oof u + i * 1, none⟩ = some (I6 y)] [(7, I6 y)] [] hS (.c (ixr 3 i hu) (.c ((hu.ext0 hXl4).cellAt (i * 1) (by omega) (ivs_at' hy)) .nil)) fun a hS => sq fun K15 hK15 => rgn 4 <| sd ww [.p, .p] [] [(24, I6 x), (25, I6 y)] [] 2 2 hS .nil fun a hS => ecl 1 (some 26) hS Tryd.call109 #[I6 x, I6 y] (cmp_any _ _) ?_
   rintro _ wc16 ⟨rfl, hEc16⟩
   refine ⟨_, rfl, fun a hS => ?_⟩
   have hE17 := hXl4.trans0 hEc16
   refine sd ww [.p] [] [(8, I6 (cmpI ↑x ↑y))] [] 4 0 hS .nil fun a hS => sge hK15 <| sq fun K18 hK18 => ?_
   rcases (show (x < y) ∨ (y < x) ∨ (x = y) from by omega) with h1 | h1 | h1
   ·
    have hcz : cmpI ↑x ↑y = -1 := if_pos (by omega)
    refine rgn 2 <| sg ww [.p, .as (.bool true)] [Value.bool (((cmpI ↑x ↑y : Int) != 0)) = .bool true] [(0, v), (1, u), (9, v), (10, I6 n), (11, I6 i), (12, .bool (decide ((↑i : Int) < ↑n))), (5, I6 i), (6, I6 x), (19, .bool (decide ((↑i : Int) ≥ ↑m))), (7, I6 y), (8, I6 (cmpI ↑x ↑y)), (28, .bool true)] 2 0 hS (.c (as_ne_t (by omega)) .nil) fun a hS => sge hK18 ?_
    refine cond_t hS rfl ?_
    refine sdq 2 [.p, .p] [] [(4, I6 (cmpI ↑x ↑y))] [] hS .nil fun a hS => wpIn_ret <| inBlock_ret <| then_ret <| then_ret <| inBlock_ret <| then_ret ?_
    refine ret1 hS Tryd.results97 rfl ?_
    exact ⟨_, rfl, ⟨fun h => hl.2 (by rw [hcz] at h; omega), fun h => by rcases hl.1 h with h | ⟨h, _⟩ <;> omega⟩, hE17⟩
   ·
    have hcz : cmpI ↑x ↑y = 1 := by rw [cmpI, if_neg (by omega), if_pos (by omega)]
    refine rgn 2 <| sg ww [.p, .as (.bool true)] [Value.bool (((cmpI ↑x ↑y : Int) != 0)) = .bool true] [(0, v), (1, u), (9, v), (10, I6 n), (11, I6 i), (12, .bool (decide ((↑i : Int) < ↑n))), (5, I6 i), (6, I6 x), (19, .bool (decide ((↑i : Int) ≥ ↑m))), (7, I6 y), (8, I6 (cmpI ↑x ↑y)), (28, .bool true)] 2 0 hS (.c (as_ne_t (by omega)) .nil) fun a hS => sge hK18 ?_
    refine cond_t hS rfl ?_
    refine sdq 2 [.p, .p] [] [(4, I6 (cmpI ↑x ↑y))] [] hS .nil fun a hS => wpIn_ret <| inBlock_ret <| then_ret <| then_ret <| inBlock_ret <| then_ret ?_
    refine ret1 hS Tryd.results97 rfl ?_
    exact ⟨_, rfl, ⟨fun h => hl.2 (by rw [hcz] at h; omega), fun h => by rcases hl.1 h with h | ⟨h, _⟩ <;> omega⟩, hE17⟩
   ·
    have hcz : cmpI ↑x ↑y = 0 := by rw [cmpI, if_neg (by omega), if_neg (by omega)]
    refine rgn 2 <| sg ww [.p, .as (.bool false)] [Value.bool (((cmpI ↑x ↑y : Int) != 0)) = .bool false] [(0, v), (1, u), (9, v), (10, I6 n), (11, I6 i), (12, .bool (decide ((↑i : Int) < ↑n))), (5, I6 i), (6, I6 x), (19, .bool (decide ((↑i : Int) ≥ ↑m))), (7, I6 y), (8, I6 (cmpI ↑x ↑y)), (28, .bool false)] 2 0 hS (.c (as_ne_f (by omega)) .nil) fun a hS => sge hK18 ?_
    refine cond_f hS rfl ?_
    refine wpIn_skip <| inBlock_normal <| hK8 _ _ <| rgn 2 <| sd ww [.as (I6 (↑i + 1)), .p] [_] [(11, I6 (↑i + 1))] [] 2 0 hS (as6 (↑i + 1)) fun a hS => seg_end ?_
    exact ⟨i + 1, ⟨hS.kp [(0, v), (1, u), (9, v), (10, I6 n), (11, I6 (↑i + 1))], hE17, by omega, hl.trans ⟨fun h => h.elim (fun h => by omega) fun h => h.2, fun h => .inr ⟨by omega, h⟩⟩⟩, by omega⟩
 ·
  replace hb7 := of_decide_eq_false hb7
  rw [lex_end2 (by omega)] at hl
  refine xt2 <| hK2 _ _ <| sq fun K21 hK21 => sdq 5 [.p, .run (I6 n), .p, .run (I6 m), .p] [Rv (Builtin.len_ #[51] 3 #[v]) (I6 n) wl4, Rv (Builtin.len_ #[51] 3 #[u]) (I6 m) wl4] [(35, .bool (decide ((↑n : Int) < ↑m)))] [] hS (.c (rlr 3 hv) (.c (rlr 3 hu) .nil)) fun a hS => ?_
  refine cond_b hS rfl (fun hb23 => ?_) (fun hb23 => ?_)
  ·
   replace hb23 := of_decide_eq_true hb23
   refine sdq 1 [.p] [] [(4, I6 (-1))] [] hS .nil fun a hS => wpIn_ret <| then_ret ?_
   refine ret1 hS Tryd.results97 rfl ?_
   exact ⟨_, rfl, ⟨fun h => hl.2 (by omega), fun h => by have := hl.1 h; omega⟩, hXl4⟩
  ·
   replace hb23 := of_decide_eq_false hb23
   refine wpIn_skip <| hK21 _ _ <| sdq 1 [.p] [] [(4, I6 0)] [] hS .nil fun a hS => wpIn_ret ?_
   refine ret1 hS Tryd.results97 rfl ?_
   exact ⟨_, rfl, ⟨fun h => hl.2 (by omega), fun h => by have := hl.1 h; omega⟩, hXl4⟩
end Go.Proofs.YtkkpghlcmcaoiaaDoor
namespace Go.Proofs.YtkkpghlcmcaoiaaDoor
open Go.Vc Go.Gm
structure Yr (N : Nat) (w : World) (g cp n : Nat) (L : List Rw) (R : List (List Nat)) : Prop where
 own : OwnR w 51 1 g cp n (L.map Rw.v)
 fam : Fam w 3 1 (fun b => N ≤ b) L
 is : L.map (fun x => (x.n, x.xs)) = R.map fun l => (l.length, ivs l)
 nil : ∀ (k : Nat) (x : Rw), L[k]? = some x → x.n = 0 → x.v = .slice none 0 0
section
variable {N g cp n : Nat} {w w' : World} {L : List Rw} {R : List (List Nat)}
theorem Yr.ext0 (h : Yr N w g cp n L R) (hE : Ext [] w w') : Yr N w' g cp n L R := ⟨h.own.ext hE (by simp), h.fam.ext0 hE, h.is, h.nil⟩
theorem Yr.extT (h : Yr N w g cp n L R) {b T : Nat} {cs : Array Value} (hE : Ext [b] w w') (hB : Blk w b T cs) (h1 : 51 ≠ T) (h2 : 3 ≠ T) : Yr N w' g cp n L R :=
 ⟨h.own.ext hE (by simpa using h.own.ne_type hB h1), h.fam.ext hE (fun k x hx y hy hm => by simp at hm; rw [hm] at hy; exact h.fam.notT hB h2 (bl_mem hx _ hy)), h.is, h.nil⟩
theorem Yr.len (h : Yr N w g cp n L R) : L.length = n ∧ R.length = n := by
 have h1 := h.own.len
 have h2 := congrArg List.length h.is
 simp only [List.length_map] at h1 h2
 omega
theorem Yr.row (h : Yr N w g cp n L R) {j : Nat} {u : List Nat} (hu : R[j]? = some u) : ∃ x, L[j]? = some x ∧ x.n = u.length ∧ x.xs = ivs u := by
 have hl := h.len
 obtain ⟨x, hx⟩ : ∃ x, L[j]? = some x := ⟨_, List.getElem?_eq_getElem (by have := (List.getElem?_eq_some_iff.1 hu).1; omega)⟩
 have := congrArg (fun l => l[j]?) h.is
 simp only [List.getElem?_map, hx, hu, Option.map_some, Option.some.injEq, Prod.mk.injEq] at this
 exact ⟨x, hx, this.1, this.2⟩
theorem Yr.at (h : Yr N w g cp n L R) {j : Nat} {u : List Nat} (hu : R[j]? = some u) :
  (u = [] ∧ (L.map Rw.v)[0 + j * 1]? = some (.slice none 0 0)) ∨ (u ≠ [] ∧ ∃ gq cq, (L.map Rw.v)[0 + j * 1]? = some (.slice (some ⟨gq, 0, none⟩) u.length cq) ∧ OwnR w 3 1 gq cq u.length (ivs u)) := by
 obtain ⟨x, hx, h1, h2⟩ := h.row hu
 have hv : (L.map Rw.v)[0 + j * 1]? = some x.v := by rw [Nat.zero_add, Nat.mul_one, List.getElem?_map, hx]; rfl
 by_cases h3 : u = []
 ·left
  subst h3
  exact ⟨rfl, by rw [hv, h.nil j x hx h1]⟩
 ·right
  have hO := h.fam.own j x hx
  obtain ⟨gq, cq, h4, h5⟩ := hO.some_of_pos (by rw [h1]; exact List.length_pos_iff.2 h3)
  rw [h1] at h4
  rw [h1, h2] at h5
  exact ⟨h3, gq, cq, by rw [hv, h4], h5⟩
theorem Fam.put (h : Fam w 3 1 (fun b => N ≤ b) L) {j : Nat} {v : Value} {m : Nat} {xs : List Value} (hO : OwnV w 3 1 v m xs) (hN : ∀ b ∈ ob v, N ≤ b) (hd : ∀ (k : Nat) (x : Rw), L[k]? = some x → ∀ b ∈ ob x.v, b ∉ ob v) : Fam w 3 1 (fun b => N ≤ b) (L.set j ⟨v, m, xs⟩) := by
 have key : ∀ (k : Nat) (x : Rw), (L.set j (⟨v, m, xs⟩ : Rw))[k]? = some x → (k = j ∧ x = ⟨v, m, xs⟩) ∨ (k ≠ j ∧ L[k]? = some x) := fun k x hx => by
  rw [List.getElem?_set] at hx
  split at hx
  ·rename_i h1
   split at hx
   ·simp at hx; exact .inl ⟨h1.symm, hx.symm⟩
   ·cases hx
  ·rename_i h1; exact .inr ⟨fun h2 => h1 h2.symm, hx⟩
 refine ⟨fun k x hx => ?_, fun k x hx => ?_, fun a b x y hab hx hy => ?_⟩
 ·rcases key k x hx with ⟨_, rfl⟩ | ⟨_, hx⟩
  ·exact hO
  ·exact h.own k x hx
 ·rcases key k x hx with ⟨_, rfl⟩ | ⟨_, hx⟩
  ·exact hN
  ·exact h.new k x hx
 ·rcases key a x hx with ⟨ha, rfl⟩ | ⟨ha, hx⟩
  ·rcases key b y hy with ⟨hb, rfl⟩ | ⟨hb, hy⟩
   ·omega
   ·exact fun z hz hz' => hd b y hy z hz' hz
  ·rcases key b y hy with ⟨hb, rfl⟩ | ⟨hb, hy⟩
   ·exact hd a x hx
   ·exact h.dj a b x y hab hx hy
end
theorem ivs_one : ∀ xs : List Nat, oneAll (ivs xs) = true
 | [] => rfl
 | _ :: xs => by simp only [ivs, List.map_cons, oneAll]; exact ivs_one xs
theorem ivs_app (xs ys : List Nat) : ivs (xs ++ ys) = ivs xs ++ ivs ys := by simp [ivs]
theorem RowN.growI {N : Nat} {w w1 : World} {bs : Option Addr} {n cp g ca : Nat} {zs : List Nat} {z : Int} {m : Nat} (h : RowN N w bs n cp zs) (hz : z = (m : Int)) (hO : OwnR w1 3 1 g ca (n + 1) (ivs zs ++ [I6 z])) {M : Nat} (hM : N ≤ M) (hF : Fresh M (ob (.slice bs n cp)) [g]) : RowN N w1 (some ⟨g, 0, none⟩) (n + 1) ca (zs ++ [m]) := by
 subst hz
 exact h.grow hO hM hF
structure MadeR (S : Sp) (V : Nat → Nat) (R : List (List Nat)) (p : Pd) (zs : List Nat) (ok : Bool) : Prop where
 yes : ok = true → zs = mkR S.nl (rF R) (row p.r) ∧ zs.length = V p.l.toNat ∧ ∀ B, Sm.m B ∈ row p.r → V B > 0 → rF R B ≠ []
 no : ok = false → ¬((∀ B, Sm.m B ∈ row p.r → V B > 0 → rF R B ≠ []) ∧ (mkR S.nl (rF R) (row p.r)).length = V p.l.toNat)
structure MadeK (S : Sp) (V : Nat → Nat) (R : List (List Nat)) (p : Pd) (k : Nat) (zs : List Nat) : Prop where
 z : zs = mkR S.nl (rF R) ((row p.r).take k)
 a : ∀ B, Sm.m B ∈ (row p.r).take k → V B > 0 → rF R B ≠ []
 l : zs.length ≤ V p.l.toNat
section
variable {S : Sp} {V : Nat → Nat} {R : List (List Nat)} {p : Pd} {k : Nat} {zs : List Nat} {x : Sy}
theorem take_row_eq (hk : p.r[k]? = some x) : (row p.r).take (k + 1) = (row p.r).take k ++ [sm x] := by
 rw [List.take_add_one, row, List.getElem?_map, hk]; rfl
theorem MadeK.start : MadeK S V R p 0 [] := ⟨rfl, fun B hB => by simp at hB, Nat.zero_le _⟩
def sy1 (nl : Nat) (R : List (List Nat)) : Sm → List Nat
 | .t n => [n]
 | .e => [nl]
 | .m A => rF R A
theorem mkR_one (nl : Nat) (R : List (List Nat)) (x : Sm) : mkR nl (rF R) [x] = sy1 nl R x := by
 cases x <;> simp [mkR, sy1]
theorem MadeK.z1 (h : MadeK S V R p k zs) (hk : p.r[k]? = some x) : zs ++ sy1 S.nl R (sm x) = mkR S.nl (rF R) ((row p.r).take (k + 1)) := by
 rw [take_row_eq hk, mkR_app, ← h.z, mkR_one]
theorem MadeK.step (h : MadeK S V R p k zs) (hk : p.r[k]? = some x) (hx : ∀ B, sm x = .m B → V B > 0 → rF R B ≠ []) (hl : (zs ++ sy1 S.nl R (sm x)).length ≤ V p.l.toNat) : MadeK S V R p (k + 1) (zs ++ sy1 S.nl R (sm x)) :=
 ⟨h.z1 hk, fun B hB => by
  rw [take_row_eq hk, List.mem_append, List.mem_singleton] at hB
  rcases hB with hB | hB
  ·exact h.a B hB
  ·exact hx B hB.symm, hl⟩
theorem MadeR.over (h : MadeK S V R p k zs) (hk : p.r[k]? = some x) (hl : V p.l.toNat < (zs ++ sy1 S.nl R (sm x)).length) : MadeR S V R p [] false :=
 ⟨fun h => (by cases h), fun _ ⟨_, h2⟩ => by
  rw [h.z1 hk] at hl
  have : mkR S.nl (rF R) (row p.r) = mkR S.nl (rF R) ((row p.r).take (k + 1)) ++ mkR S.nl (rF R) ((row p.r).drop (k + 1)) := by rw [← mkR_app, List.take_append_drop]
  rw [this, List.length_append] at h2
  omega⟩
theorem MadeR.lack (hk : p.r[k]? = some x) (h3 : sm x = .m x.2.toNat) (hv : V x.2.toNat > 0) (hr : rF R x.2.toNat = []) : MadeR S V R p [] false :=
 ⟨fun h => (by cases h), fun _ ⟨h1, _⟩ => h1 x.2.toNat (by rw [← h3]; exact List.mem_map.2 ⟨x, List.mem_of_getElem? hk, rfl⟩) hv hr⟩
theorem MadeK.done (h : MadeK S V R p p.r.length zs) {ok : Bool} (ho : ok = true ↔ zs.length = V p.l.toNat) : MadeR S V R p zs ok := by
 have hz := h.z
 have ha := h.a
 rw [List.take_of_length_le (by rw [row_len]; exact Nat.le_refl _)] at hz ha
 exact ⟨fun h1 => ⟨hz, ho.1 h1, ha⟩, fun h1 ⟨_, h2⟩ => by
  rw [← hz] at h2
  have := ho.2 h2
  rw [h1] at this; cases this⟩
end
end Go.Proofs.YtkkpghlcmcaoiaaDoor
