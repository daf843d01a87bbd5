import Derived.Test.YtkkpghlcmcaoiaaDoorS13
import Derived.Test.YtkkpghlcmcaoiaaDoorS17
namespace Go.Proofs.YtkkpghlcmcaoiaaDoor
open Go.Vc Go.Gm
theorem FirR.len {S : Sp} {ls : List (List Nat)} (h : FirR S ls) : ls.length = S.ns.length := by
 obtain ⟨fs, rfl, h1, _⟩ := h
 rw [List.length_map, h1]
theorem FolR.len {S : Sp} {ls : List (List Nat)} (h : FolR S ls) : ls.length = S.ns.length := by
 obtain ⟨fs, rfl, h1, _⟩ := h
 rw [List.length_map, h1]
section
variable {w0 w : World} {S : Sp} (hG : SpOk w0 S) (hb : Ext [] w0 w) (hok : GOk S)
include hG hb hok
theorem Nullable_ok : Calls Tryd.prog 14 #[.agg S.ca] w fun e w' => ∃ g bs, e = .returned (.tuple #[Sn S g, .agg #[I6 0, I6 0, .string ⟨#[]⟩]]) ∧ OwnR w' 4 1 g S.ns.length S.ns.length (bls bs) ∧ IsD S.g false S.ns.length bs ∧ w.heap.size ≤ g ∧ Ext [] w w' := by
 refine (Nullable_any hG hb).mono ?_
 rintro e w' ⟨z, hZ, h | ⟨_, g, bs, h1, h2, h3, h4⟩, hE⟩
 ·exact absurd (hZ.zero.2.2 hok) h.1
 ·exact ⟨g, bs, h1, h2, h3, h4, hE⟩
theorem First_ok (hT : Tab w0) : Calls Tryd.prog 15 #[.agg S.ca] w fun e w' => ∃ bs cp L ls, e = .returned (.tuple #[.slice bs S.ns.length cp, .agg #[I6 0, I6 0, .string ⟨#[]⟩]]) ∧ Lsts w.heap.size w' bs S.ns.length cp L ls ∧ FirR S ls ∧ Ext [] w w' := by
 refine (First_any hG hb hT).mono ?_
 rintro e w' ⟨z, hZ, h | ⟨_, bs, m, cp, L, ls, h1, h2, h3⟩, hE⟩
 ·exact absurd (hZ.zero.2.2 hok) h.1
 ·obtain rfl : m = S.ns.length := h2.len.2.symm.trans h3.len
  exact ⟨bs, cp, L, ls, h1, h2, h3, hE⟩
theorem Follow_ok (hT : Tab w0) : Calls Tryd.prog 16 #[.agg S.ca] w fun e w' => ∃ bs cp L ls, e = .returned (.tuple #[.slice bs S.ns.length cp, .agg #[I6 0, I6 0, .string ⟨#[]⟩]]) ∧ Lsts w.heap.size w' bs S.ns.length cp L ls ∧ FolR S ls ∧ Ext [] w w' := by
 refine (Follow_any hG hb hT).mono ?_
 rintro e w' ⟨z, hZ, h | ⟨_, bs, m, cp, L, ls, h1, h2, h3⟩, hE⟩
 ·exact absurd (hZ.zero.2.2 hok) h.1
 ·obtain rfl : m = S.ns.length := h2.len.2.symm.trans h3.len
  exact ⟨bs, cp, L, ls, h1, h2, h3, hE⟩
end
def YoR (S : Sp) (k at' : Int) (bs : Option Addr) (m cp : Nat) (L : List Rw) (ls : List (List Nat)) : Prop := ∃ vs, LenR S vs ∧ ((k = 6 ∧ (fY vs 0).1 ≠ 0 ∧ at' = (fY vs 0).2 ∧ bs = none ∧ m = 0 ∧ cp = 0 ∧ L = [] ∧ ls = []) ∨ (k = 0 ∧ at' = 0 ∧ (fY vs 0).1 = 0 ∧ m = S.ns.length ∧ YldR S ls))
theorem Lsts.none (N : Nat) (w : World) : Lsts N w none 0 0 [] [] := ⟨OwnV.nil _ _ _, fun x hx => by simp [ob] at hx, Fam.nil, rfl⟩
theorem Yields_ok {w0 w : World} {S : Sp} (hG : SpOk w0 S) (hb : Ext [] w0 w) (hok : GOk S) : Calls Tryd.prog 17 #[.agg S.ca] w fun e w' => ∃ bs m cp L ls k at', e = .returned (.tuple #[.slice bs m cp, .agg #[I6 k, I6 at', .string ⟨#[]⟩]]) ∧ Lsts w.heap.size w' bs m cp L ls ∧ YoR S k at' bs m cp L ls ∧ Ext [] w w' := by
 refine (Yields_any hG hb).mono ?_
 rintro e w' ⟨z, hZ, h | ⟨_, vs, hL, ⟨h1, h2⟩ | ⟨h1, bs, m, cp, L, ls, h2, h3, h4⟩⟩, hE⟩
 ·exact absurd (hZ.zero.2.2 hok) h.1
 ·exact ⟨none, 0, 0, [], [], 6, _, h2, Lsts.none _ _, ⟨vs, hL, .inl ⟨rfl, h1, rfl, rfl, rfl, rfl, rfl, rfl⟩⟩, hE⟩
 ·exact ⟨bs, m, cp, L, ls, 0, 0, h2, h3, ⟨vs, hL, .inr ⟨rfl, rfl, h1, h3.len.2.symm.trans h4.1, h4⟩⟩, hE⟩
structure Td where
 eg : Nat
 es : List Bool
 fb : Option Addr
 fc : Nat
 fL : List Rw
 fl : List (List Nat)
 wb : Option Addr
 wc : Nat
 wL : List Rw
 wl : List (List Nat)
 yb : Option Addr
 yn : Nat
 yc : Nat
 yL : List Rw
 yl : List (List Nat)
 full : Bool
def Td.cells (S : Sp) (T : Td) : Array Value := #[Sn S T.eg, .slice T.fb S.ns.length T.fc, .slice T.wb S.ns.length T.wc, .slice T.yb T.yn T.yc, .bool T.full]
structure TdOk (S : Sp) (N : Nat) (w : World) (T : Td) : Prop where
 re : OwnR w 4 1 T.eg S.ns.length S.ns.length (bls T.es)
 ne : N ≤ T.eg
 isE : IsD S.g false S.ns.length T.es
 lf : Lsts N w T.fb S.ns.length T.fc T.fL T.fl
 isF : FirR S T.fl
 lw : Lsts N w T.wb S.ns.length T.wc T.wL T.wl
 isW : FolR S T.wl
 ly : Lsts N w T.yb T.yn T.yc T.yL T.yl
 isY : ∃ k at', YoR S k at' T.yb T.yn T.yc T.yL T.yl ∧ (T.full = true ↔ k = 6)
 afw : ∀ b ∈ oa T.fb ++ bl T.fL, b ∉ oa T.wb ++ bl T.wL
 afy : ∀ b ∈ oa T.fb ++ bl T.fL, b ∉ oa T.yb ++ bl T.yL
 awy : ∀ b ∈ oa T.wb ++ bl T.wL, b ∉ oa T.yb ++ bl T.yL
theorem Lsts.lie {N : Nat} {w : World} {bs : Option Addr} {n cp : Nat} {L : List Rw} {ls : List (List Nat)} (h : Lsts N w bs n cp L ls) : ∀ b ∈ oa bs ++ bl L, b < w.heap.size := fun b hb => by
 rcases List.mem_append.1 hb with hb | hb
 ·exact h.own.lie b (by rw [ob_oa]; exact hb)
 ·exact h.fam.blt b hb
theorem Lsts.ge {N : Nat} {w : World} {bs : Option Addr} {n cp : Nat} {L : List Rw} {ls : List (List Nat)} (h : Lsts N w bs n cp L ls) : ∀ b ∈ oa bs ++ bl L, N ≤ b := fun b hb => by
 rcases List.mem_append.1 hb with hb | hb
 ·exact h.new b (by rw [ob_oa]; exact hb)
 ·exact h.fam.bD b hb
theorem Lsts.apart {N N' : Nat} {w w' : World} {bs bs' : Option Addr} {n n' cp cp' : Nat} {L L' : List Rw} {ls ls' : List (List Nat)} (h : Lsts N w bs n cp L ls) (h' : Lsts N' w' bs' n' cp' L' ls') (hN : w.heap.size ≤ N') : ∀ b ∈ oa bs ++ bl L, b ∉ oa bs' ++ bl L' := fun b hb hb' => by
 have h1 := h.lie b hb
 have h2 := h'.ge b hb'
 omega
end Go.Proofs.YtkkpghlcmcaoiaaDoor
namespace Go.Proofs.YtkkpghlcmcaoiaaDoor
open Go.Vc Go.Gm
theorem tk_step {xs ys : List Nat} {i x y : Nat} (h : xs.take i = ys.take i) (hx : xs[i]? = some x) (hy : ys[i]? = some y) (e : x = y) : xs.take (i + 1) = ys.take (i + 1) := by
 rw [List.take_add_one, List.take_add_one, h, hx, hy, e]
theorem lex_step : ∀ {xs ys : List Nat} {i x y : Nat}, xs.take i = ys.take i → xs[i]? = some x → ys[i]? = some y → x ≠ y → (lex xs ys ↔ x < y)
 | [], _, _, _, _, _, h, _, _ => by simp at h
 | _ :: _, [], _, _, _, _, _, h, _ => by simp at h
 | a :: xs, b :: ys, 0, x, y, _, h1, h2, h3 => by
  simp only [List.getElem?_cons_zero, Option.some.injEq] at h1 h2
  subst h1; subst h2
  simp only [lex]
  omega
 | a :: xs, b :: ys, i + 1, x, y, h, h1, h2, h3 => by
  simp only [List.take_succ_cons, List.cons.injEq] at h
  simp only [List.getElem?_cons_succ] at h1 h2
  have := lex_step h.2 h1 h2 h3
  simp only [lex, h.1, Nat.lt_irrefl, true_and, false_or]
  exact this
theorem less_step {xs ys : List Nat} {i x y : Nat} (hl : xs.length = ys.length) (h : xs.take i = ys.take i) (hx : xs[i]? = some x) (hy : ys[i]? = some y) (hn : x ≠ y) : less xs ys ↔ x < y := by
 unfold less
 rw [lex_step h hx hy hn]
 omega
theorem Less_any {w : World} {v u : Value} {n m : Nat} {xs ys : List Nat} (hv : RdV w 1 v n (ivs xs)) (hu : RdV w 1 u m (ivs ys)) (hn : n ≤ 1048576) :
  Calls Tryd.prog 30 #[v, u] w fun e w' => e = .returned (.bool (decide (less xs ys))) ∧ Ext [] w w' := by
 have hlx : xs.length = n := by have := hv.len; rw [ivs_len] at this; omega
 have hly : ys.length = m := by have := hu.len; rw [ivs_len] at this; omega
 refine cbd 40 [(0, v), (1, u)] Tryd.func30 rfl fun a hS => ?_
 have hE0 : Ext [] w w := Ext.refl _ _
 refine sq fun K1 hK1 => rgn 1 <| sg ww [.p] [] [(0, v), (1, u), (4, .bool false)] 1 0 hS .nil fun a hS => sge hK1 <| sq fun K2 hK2 => sq fun K3 hK3 => ?_
 rcases (show (¬n = m) ∨ (n = m) from by omega) with h1 | h1
 ·
  refine rgn 5 <| sd ww [.p, .run (I6 n), .p, .run (I6 m), .as (.bool true)] [Rv (Builtin.len_ #[51] 3 #[v]) (I6 n) w, Rv (Builtin.len_ #[51] 3 #[u]) (I6 m) w, Value.bool (((↑n : Int) != ↑m)) = .bool true] [(10, .bool true)] [] 5 0 hS (.c (rlr 3 hv) (.c (rlr 3 hu) (.c (as_ne_t (by omega)) .nil))) fun a hS => sge hK3 ?_
  refine cond_t hS rfl ?_
  refine sdq 6 [.p, .run (I6 n), .p, .run (I6 m), .p, .p] [Rv (Builtin.len_ #[51] 3 #[v]) (I6 n) w, Rv (Builtin.len_ #[51] 3 #[u]) (I6 m) w] [(4, .bool (decide ((↑n : Int) < ↑m)))] [] hS (.c (rlr 3 hv) (.c (rlr 3 hu) .nil)) fun a hS => wpIn_ret <| then_ret ?_
  refine ret1 hS Tryd.results30 rfl ?_
  exact ⟨by rw [show decide ((n : Int) < m) = decide (less xs ys) from decide_eq_decide.2 ⟨fun h => .inl (by omega), fun h => by rcases h with h | h <;> omega⟩], hE0⟩
 ·
  refine rgn 5 <| sd ww [.p, .run (I6 n), .p, .run (I6 m), .as (.bool false)] [Rv (Builtin.len_ #[51] 3 #[v]) (I6 n) w, Rv (Builtin.len_ #[51] 3 #[u]) (I6 m) w, Value.bool (((↑n : Int) != ↑m)) = .bool false] [(10, .bool false)] [] 5 0 hS (.c (rlr 3 hv) (.c (rlr 3 hu) (.c (as_ne_f (by omega)) .nil))) fun a hS => sge hK3 ?_
  refine cond_f hS rfl ?_
  refine wpIn_skip <| hK2 _ _ <| sq fun K5 hK5 => sdq 1 [.p] [] [(5, I6 0)] [] hS .nil fun a hS => wpIn_block ?_
  refine loop_ghost (fun (i : Nat) a' w' => St 40 [] [(0, v), (1, u), (5, I6 i)] a' ∧ Ext [] w w' ∧ i ≤ n ∧ xs.take i = ys.take i) (fun (i : Nat) => n - i) 0 ⟨hS.keepTo [0, 1, 5] (by kernel_rfl), hE0, by omega, rfl⟩ ?_
  rintro i a wl7 ⟨hS, hXl7, hi, ht⟩
  refine sq fun K8 hK8 => sdq 4 [.p, .p, .run (I6 n), .p] [Rv (Builtin.len_ #[51] 3 #[v]) (I6 n) wl7] [(19, .bool (decide ((↑i : Int) < ↑n)))] [] hS (.c (rlr 3 hv) .nil) fun a hS => ?_
  refine cond_b hS rfl (fun hb10 => ?_) (fun hb10 => ?_)
  ·
   replace hb10 := of_decide_eq_true hb10
   obtain ⟨x, hx⟩ : ∃ x, xs[i]? = some x := gE
   obtain ⟨y, hy⟩ : ∃ y, ys[i]? = some y := gE
   refine wpIn_skip <| hK8 _ _ <| sq fun K11 hK11 => wpIn_block <| sq fun K12 hK12 => ?_
   rcases (show (¬x = y) ∨ (x = y) from by omega) with h2 | h2
   ·
    refine fn3 [.q .p, .q .p, .q (.run ((Po (bof v) (oof v + i * 1)))), .q (.ld (I6 x)), .q .p, .q .p, .q (.run ((Po (bof u) (oof u + i * 1)))), .q (.ld (I6 y)), .q (.as (.bool true))] [0, 0, 0, 0, 0, 0, 0, 0, 0] [0, 0, 0, 0, 0, 0, 0, 0, 0] [0, 0, 3, 7, 0, 0, 48, 112, 255] [] 0 ([(0, v), (1, u), (5, I6 i), (19, .bool (decide ((↑i : Int) < ↑n))), (22, v), (23, I6 i), (24, (Po (bof v) (oof v + i * 1))), (25, I6 x), (26, u), (27, I6 i), (28, (Po (bof u) (oof u + i * 1))), (29, I6 y), (30, .bool true)]) [wl7.drew] wl7.drew (fun w' => [(2, [Rv (Instr.indexAt 51 (v) (I6 i)) ((Po (bof v) (oof v + i * 1))) w']), (3, [w'.cell? ⟨bof v, oof v + i * 1, none⟩ = some (I6 x)]), (6, [Rv (Instr.indexAt 51 (u) (I6 i)) ((Po (bof u) (oof u + i * 1))) w']), (7, [w'.cell? ⟨bof u, oof u + i * 1, none⟩ = some (I6 y)]), (8, [Value.bool (((↑x : Int) != ↑y)) = .bool true])]) [0, 1, 5, 19] [] hS (fun _ => by kernel_rfl) ?_ ?_ ?_
    ·intro e w' hw
     refine (.c ?_ (.c ?_ (.c ?_ (.c ?_ (.c ?_ .nil)))))
     ·exact fun _ _ => (.c (ixr 3 i hv) .nil)
     ·intro h1 h2
      obtain rfl := Nat.le_antisymm h2 h1
      obtain rfl : w' = wl7.drew := hw.trans (by kernel_rfl)
      exact (.c ((hv.ext0 (hXl7.trans0 (by first | exact (Ext.refl [] _).drew | exact Ext.refl [] _))).cellAt (i * 1) (by omega) (ivs_at' hx)) .nil)
     ·exact fun _ _ => (.c (ixr 3 i hu) .nil)
     ·intro h1 h2
      obtain rfl := Nat.le_antisymm h2 h1
      obtain rfl : w' = wl7.drew := hw.trans (by kernel_rfl)
      exact (.c ((hu.ext0 (hXl7.trans0 (by first | exact (Ext.refl [] _).drew | exact Ext.refl [] _))).cellAt (i * 1) (by omega) (ivs_at' hy)) .nil)
     ·exact fun _ _ => (.c (as_ne_t (by omega)) .nil)
    ·refine .nil
    rintro a w14 hS hw15
    replace hw15 : w14 = wl7.drew := hw15.trans (by kernel_rfl)
    have hE16 : Ext [] w w14 := by rw [hw15]; exact hXl7.drew
    replace hS := hS.kp [(0, v), (1, u), (5, I6 i), (19, .bool (decide ((↑i : Int) < ↑n))), (30, .bool true)]
    refine hK12 _ _ ?_
    refine cond_t hS rfl ?_
    refine sq fun K17 hK17 => ?_
    refine fn3 [.q .p, .q .p, .q (.run ((Po (bof v) (oof v + i * 1)))), .q (.ld (I6 x)), .q .p, .q .p, .q (.run ((Po (bof u) (oof u + i * 1)))), .q (.ld (I6 y)), .q .p, .q .p] [0, 0, 0, 0, 0, 0, 0, 0, 0, 0] [0, 0, 0, 0, 0, 0, 0, 0, 0, 0] [0, 0, 3, 7, 0, 0, 48, 112, 255, 511] [] 0 ([(0, v), (1, u), (5, I6 i), (19, .bool (decide ((↑i : Int) < ↑n))), (30, .bool true), (31, v), (32, I6 i), (33, (Po (bof v) (oof v + i * 1))), (34, I6 x), (35, u), (36, I6 i), (37, (Po (bof u) (oof u + i * 1))), (38, I6 y), (39, .bool (decide ((↑x : Int) < ↑y))), (4, .bool (decide ((↑x : Int) < ↑y)))]) [w14.drew] w14.drew (fun w' => [(2, [Rv (Instr.indexAt 51 (v) (I6 i)) ((Po (bof v) (oof v + i * 1))) w']), (3, [w'.cell? ⟨bof v, oof v + i * 1, none⟩ = some (I6 x)]), (6, [Rv (Instr.indexAt 51 (u) (I6 i)) ((Po (bof u) (oof u + i * 1))) w']), (7, [w'.cell? ⟨bof u, oof u + i * 1, none⟩ = some (I6 y)])]) [0, 1, 5, 19, 30] [] hS (fun _ => by kernel_rfl) ?_ ?_ ?_
    ·intro e w' hw
     refine (.c ?_ (.c ?_ (.c ?_ (.c ?_ .nil))))
     ·exact fun _ _ => (.c (ixr 3 i hv) .nil)
     ·intro h1 h2
      obtain rfl := Nat.le_antisymm h2 h1
      obtain rfl : w' = w14.drew := hw.trans (by kernel_rfl)
      exact (.c ((hv.ext0 (hE16.trans0 (by first | exact (Ext.refl [] _).drew | exact Ext.refl [] _))).cellAt (i * 1) (by omega) (ivs_at' hx)) .nil)
     ·exact fun _ _ => (.c (ixr 3 i hu) .nil)
     ·intro h1 h2
      obtain rfl := Nat.le_antisymm h2 h1
      obtain rfl : w' = w14.drew := hw.trans (by kernel_rfl)
      exact (.c ((hu.ext0 (hE16.trans0 (by first | exact (Ext.refl [] _).drew | exact Ext.refl [] _))).cellAt (i * 1) (by omega) (ivs_at' hy)) .nil)
    ·refine .nil
    rintro a w19 hS hw20
    replace hw20 : w19 = w14.drew := hw20.trans (by kernel_rfl)
    have hE21 : Ext [] w w19 := by rw [hw20]; exact hE16.drew
    replace hS := hS.kp [(0, v), (1, u), (5, I6 i), (19, .bool (decide ((↑i : Int) < ↑n))), (30, .bool true), (4, .bool (decide ((↑x : Int) < ↑y)))]
    refine hK17 _ _ <| wpIn_ret <| inBlock_ret <| then_ret <| then_ret <| inBlock_ret <| then_ret ?_
    refine ret1 hS Tryd.results30 rfl ?_
    exact ⟨by rw [show decide ((x : Int) < y) = decide (less xs ys) from decide_eq_decide.2 (by rw [less_step (by omega) ht hx hy h2]; omega)], hE21⟩
   ·
    refine fn3 [.q .p, .q .p, .q (.run ((Po (bof v) (oof v + i * 1)))), .q (.ld (I6 x)), .q .p, .q .p, .q (.run ((Po (bof u) (oof u + i * 1)))), .q (.ld (I6 y)), .q (.as (.bool false))] [0, 0, 0, 0, 0, 0, 0, 0, 0] [0, 0, 0, 0, 0, 0, 0, 0, 0] [0, 0, 3, 7, 0, 0, 48, 112, 255] [] 0 ([(0, v), (1, u), (5, I6 i), (19, .bool (decide ((↑i : Int) < ↑n))), (22, v), (23, I6 i), (24, (Po (bof v) (oof v + i * 1))), (25, I6 x), (26, u), (27, I6 i), (28, (Po (bof u) (oof u + i * 1))), (29, I6 y), (30, .bool false)]) [wl7.drew] wl7.drew (fun w' => [(2, [Rv (Instr.indexAt 51 (v) (I6 i)) ((Po (bof v) (oof v + i * 1))) w']), (3, [w'.cell? ⟨bof v, oof v + i * 1, none⟩ = some (I6 x)]), (6, [Rv (Instr.indexAt 51 (u) (I6 i)) ((Po (bof u) (oof u + i * 1))) w']), (7, [w'.cell? ⟨bof u, oof u + i * 1, none⟩ = some (I6 y)]), (8, [Value.bool (((↑x : Int) != ↑y)) = .bool false])]) [0, 1, 5, 19] [] hS (fun _ => by kernel_rfl) ?_ ?_ ?_
    ·intro e w' hw
     refine (.c ?_ (.c ?_ (.c ?_ (.c ?_ (.c ?_ .nil)))))
     ·exact fun _ _ => (.c (ixr 3 i hv) .nil)
     ·intro h1 h2
      obtain rfl := Nat.le_antisymm h2 h1
      obtain rfl : w' = wl7.drew := hw.trans (by kernel_rfl)
      exact (.c ((hv.ext0 (hXl7.trans0 (by first | exact (Ext.refl [] _).drew | exact Ext.refl [] _))).cellAt (i * 1) (by omega) (ivs_at' hx)) .nil)
     ·exact fun _ _ => (.c (ixr 3 i hu) .nil)
     ·intro h1 h2
      obtain rfl := Nat.le_antisymm h2 h1
      obtain rfl : w' = wl7.drew := hw.trans (by kernel_rfl)
      exact (.c ((hu.ext0 (hXl7.trans0 (by first | exact (Ext.refl [] _).drew | exact Ext.refl [] _))).cellAt (i * 1) (by omega) (ivs_at' hy)) .nil)
     ·exact fun _ _ => (.c (as_ne_f (by omega)) .nil)
    ·refine .nil
    rintro a w23 hS hw24
    replace hw24 : w23 = wl7.drew := hw24.trans (by kernel_rfl)
    have hE25 : Ext [] w w23 := by rw [hw24]; exact hXl7.drew
    replace hS := hS.kp [(0, v), (1, u), (5, I6 i), (19, .bool (decide ((↑i : Int) < ↑n))), (30, .bool false)]
    refine hK12 _ _ ?_
    refine cond_f hS rfl ?_
    refine wpIn_skip <| inBlock_normal <| hK11 _ _ <| rgn 3 <| sd ww [.p, .as (I6 (↑i + 1)), .p] [_] [(5, I6 (↑i + 1))] [] 3 0 hS (as6 (↑i + 1)) fun a hS => seg_end ?_
    exact ⟨i + 1, ⟨hS.kp [(0, v), (1, u), (5, I6 (↑i + 1))], hE25, by omega, tk_step ht hx hy h2⟩, by omega⟩
  ·
   replace hb10 := of_decide_eq_false hb10
   rw [List.take_of_length_le (by omega), List.take_of_length_le (by omega)] at ht
   refine xt2 <| hK5 _ _ <| sdq 1 [.p] [] [(4, .bool false)] [] hS .nil fun a hS => wpIn_ret ?_
   refine ret1 hS Tryd.results30 rfl ?_
   exact ⟨by rw [decide_eq_false (by rw [ht]; exact less_irr _)], hXl7⟩
end Go.Proofs.YtkkpghlcmcaoiaaDoor
