import Derived.Test.YtkkpghlcmcaoiaaDoorS13
import Derived.Test.YtkkpghlcmcaoiaaDoorS17
namespace Go.Proofs.YtkkpghlcmcaoiaaDoor
open Go.Vc Go.Gm
theorem FirR.len {S : Sp} {ls : List (List Nat)} (h : FirR S ls) : ls.length = S.ns.length := by
 obtain ⟨fs, rfl, h1, _⟩ := h
 rw [List.length_map, h1]
theorem FolR.len {S : Sp} {ls : List (List Nat)} (h : FolR S ls) : ls.length = S.ns.length := by
 obtain ⟨fs, rfl, h1, _⟩ := h
 rw [List.length_map, h1]
section
variable {w0 w : World} {S : Sp} (hG : SpOk w0 S) (hb : Ext [] w0 w) (hok : GOk S)
include hG hb hok
theorem Follow_ok (hT : Tab w0) : Calls Tryd.prog 16 #[.agg S.ca] w fun e w' => ∃ bs cp L ls, e = .returned (.tuple #[.slice bs S.ns.length cp, .agg #[I6 0, I6 0, .string ⟨#[]⟩]]) ∧ Lsts w.heap.size w' bs S.ns.length cp L ls ∧ FolR S ls ∧ Ext [] w w' := by
 refine (Follow_any hG hb hT).mono ?_
 rintro e w' ⟨z, hZ, h | ⟨_, bs, m, cp, L, ls, h1, h2, h3⟩, hE⟩
 ·exact absurd (hZ.zero.2.2 hok) h.1
 ·obtain rfl : m = S.ns.length := h2.len.2.symm.trans h3.len
  exact ⟨bs, cp, L, ls, h1, h2, h3, hE⟩
end
def YoR (S : Sp) (k at' : Int) (bs : Option Addr) (m cp : Nat) (L : List Rw) (ls : List (List Nat)) : Prop := ∃ vs, LenR S vs ∧ ((k = 6 ∧ (fY vs 0).1 ≠ 0 ∧ at' = (fY vs 0).2 ∧ bs = none ∧ m = 0 ∧ cp = 0 ∧ L = [] ∧ ls = []) ∨ (k = 0 ∧ at' = 0 ∧ (fY vs 0).1 = 0 ∧ m = S.ns.length ∧ YldR S ls))
theorem Lsts.none (N : Nat) (w : World) : Lsts N w none 0 0 [] [] := ⟨OwnV.nil _ _ _, fun x hx => by simp [ob] at hx, Fam.nil, rfl⟩
theorem Yields_ok {w0 w : World} {S : Sp} (hG : SpOk w0 S) (hb : Ext [] w0 w) (hok : GOk S) : Calls Tryd.prog 17 #[.agg S.ca] w fun e w' => ∃ bs m cp L ls k at', e = .returned (.tuple #[.slice bs m cp, .agg #[I6 k, I6 at', .string ⟨#[]⟩]]) ∧ Lsts w.heap.size w' bs m cp L ls ∧ YoR S k at' bs m cp L ls ∧ Ext [] w w' := by
 refine (Yields_any hG hb).mono ?_
 rintro e w' ⟨z, hZ, h | ⟨_, vs, hL, ⟨h1, h2⟩ | ⟨h1, bs, m, cp, L, ls, h2, h3, h4⟩⟩, hE⟩
 ·exact absurd (hZ.zero.2.2 hok) h.1
 ·exact ⟨none, 0, 0, [], [], 6, _, h2, Lsts.none _ _, ⟨vs, hL, .inl ⟨rfl, h1, rfl, rfl, rfl, rfl, rfl, rfl⟩⟩, hE⟩
 ·exact ⟨bs, m, cp, L, ls, 0, 0, h2, h3, ⟨vs, hL, .inr ⟨rfl, rfl, h1, h3.len.2.symm.trans h4.1, h4⟩⟩, hE⟩
structure Td where
 eg : Nat
 es : List Bool
 fb : Option Addr
 fc : Nat
 fL : List Rw
 fl : List (List Nat)
 wb : Option Addr
 wc : Nat
 wL : List Rw
 wl : List (List Nat)
 yb : Option Addr
 yn : Nat
 yc : Nat
 yL : List Rw
 yl : List (List Nat)
 full : Bool
def Td.cells (S : Sp) (T : Td) : Array Value := #[Sn S T.eg, .slice T.fb S.ns.length T.fc, .slice T.wb S.ns.length T.wc, .slice T.yb T.yn T.yc, .bool T.full]
structure TdOk (S : Sp) (N : Nat) (w : World) (T : Td) : Prop where
 re : OwnR w 4 1 T.eg S.ns.length S.ns.length (bls T.es)
 ne : N ≤ T.eg
 isE : IsD S.g false S.ns.length T.es
 lf : Lsts N w T.fb S.ns.length T.fc T.fL T.fl
 isF : FirR S T.fl
 lw : Lsts N w T.wb S.ns.length T.wc T.wL T.wl
 isW : FolR S T.wl
 ly : Lsts N w T.yb T.yn T.yc T.yL T.yl
 isY : ∃ k at', YoR S k at' T.yb T.yn T.yc T.yL T.yl ∧ (T.full = true ↔ k = 6)
 afw : ∀ b ∈ oa T.fb ++ bl T.fL, b ∉ oa T.wb ++ bl T.wL
 afy : ∀ b ∈ oa T.fb ++ bl T.fL, b ∉ oa T.yb ++ bl T.yL
 awy : ∀ b ∈ oa T.wb ++ bl T.wL, b ∉ oa T.yb ++ bl T.yL
theorem Lsts.lie {N : Nat} {w : World} {bs : Option Addr} {n cp : Nat} {L : List Rw} {ls : List (List Nat)} (h : Lsts N w bs n cp L ls) : ∀ b ∈ oa bs ++ bl L, b < w.heap.size := fun b hb => by
 rcases List.mem_append.1 hb with hb | hb
 ·exact h.own.lie b (by rw [ob_oa]; exact hb)
 ·exact h.fam.blt b hb
theorem Lsts.ge {N : Nat} {w : World} {bs : Option Addr} {n cp : Nat} {L : List Rw} {ls : List (List Nat)} (h : Lsts N w bs n cp L ls) : ∀ b ∈ oa bs ++ bl L, N ≤ b := fun b hb => by
 rcases List.mem_append.1 hb with hb | hb
 ·exact h.new b (by rw [ob_oa]; exact hb)
 ·exact h.fam.bD b hb
theorem Lsts.apart {N N' : Nat} {w w' : World} {bs bs' : Option Addr} {n n' cp cp' : Nat} {L L' : List Rw} {ls ls' : List (List Nat)} (h : Lsts N w bs n cp L ls) (h' : Lsts N' w' bs' n' cp' L' ls') (hN : w.heap.size ≤ N') : ∀ b ∈ oa bs ++ bl L, b ∉ oa bs' ++ bl L' := fun b hb hb' => by
 have h1 := h.lie b hb
 have h2 := h'.ge b hb'
 omega
end Go.Proofs.YtkkpghlcmcaoiaaDoor
namespace Go.Proofs.YtkkpghlcmcaoiaaDoor
open Go.Vc Go.Gm
theorem SameP.step {α : Type} {xs ys : List α} {i : Nat} {x y : α} (h : xs.take i = ys.take i) (hx : xs[i]? = some x) (hy : ys[i]? = some y) (e : x = y) : xs.take (i + 1) = ys.take (i + 1) := by
 rw [List.take_add_one, List.take_add_one, h, hx, hy, e]
structure RdL (w : World) (v : Value) (n : Nat) (ls : List (List Nat)) : Prop where
 r : ∃ vs : List Value, RdV w 1 v n vs ∧ vs.length = n ∧ ∀ (k : Nat) (l : List Nat), ls[k]? = some l → ∃ u, vs[k]? = some u ∧ RdV w 1 u l.length (ivs l)
 len : ls.length = n
 max : ∀ l ∈ ls, l.length ≤ 1048576
theorem RdL.ext0 {w w' : World} {v : Value} {n : Nat} {ls : List (List Nat)} (h : RdL w v n ls) (hE : Ext [] w w') : RdL w' v n ls := by
 obtain ⟨⟨vs, h1, h2, h3⟩, h4, h5⟩ := h
 refine ⟨⟨vs, h1.ext0 hE, h2, fun k l hl => ?_⟩, h4, h5⟩
 obtain ⟨u, h6, h7⟩ := h3 k l hl
 exact ⟨u, h6, h7.ext0 hE⟩
theorem Lsts.rdl {N : Nat} {w : World} {bs : Option Addr} {n cp : Nat} {L : List Rw} {ls : List (List Nat)} (h : Lsts N w bs n cp L ls) (hm : ∀ l ∈ ls, l.length ≤ 1048576) : RdL w (.slice bs n cp) n ls := by
 have hl := h.len
 refine ⟨⟨L.map Rw.v, h.own.rd, by rw [List.length_map]; exact hl.1, fun k l hk => ?_⟩, hl.2, hm⟩
 obtain ⟨x, hx⟩ : ∃ x, L[k]? = some x := ⟨_, List.getElem?_eq_getElem (by have := (List.getElem?_eq_some_iff.1 hk).1; omega)⟩
 have he := congrArg (fun l => l[k]?) h.is
 simp only [List.getElem?_map, hx, hk, Option.map_some, Option.some.injEq, Prod.mk.injEq] at he
 refine ⟨x.v, by rw [List.getElem?_map, hx]; rfl, ?_⟩
 have := (h.fam.own k x hx).rd
 rw [he.1, he.2] at this
 exact this
theorem SameInts_any {w : World} {v u : Value} {n m : Nat} {xs ys : List Nat} (hv : RdV w 1 v n (ivs xs)) (hu : RdV w 1 u m (ivs ys)) (hn : n ≤ 1048576) :
  Calls Tryd.prog 35 #[v, u] w fun e w' => e = .returned (.bool (decide (xs = ys))) ∧ Ext [] w w' := by
 have hlx : xs.length = n := by have := hv.len; rw [ivs_len] at this; omega
 have hly : ys.length = m := by have := hu.len; rw [ivs_len] at this; omega
 refine cbd 26 [(0, v), (1, u)] Tryd.func35 rfl fun a hS => ?_
 have hE0 : Ext [] w w := Ext.refl _ _
 refine sq fun K1 hK1 => rgn 1 <| sg ww [.p] [] [(0, v), (1, u), (4, .bool false)] 1 0 hS .nil fun a hS => sge hK1 <| sq fun K2 hK2 => sq fun K3 hK3 => ?_
 rcases (show (¬n = m) ∨ (n = m) from by omega) with h1 | h1
 ·
  refine rgn 5 <| sd ww [.p, .run (I6 n), .p, .run (I6 m), .as (.bool true)] [Rv (Builtin.len_ #[51] 3 #[v]) (I6 n) w, Rv (Builtin.len_ #[51] 3 #[u]) (I6 m) w, Value.bool (((↑n : Int) != ↑m)) = .bool true] [(10, .bool true)] [] 5 0 hS (.c (rlr 3 hv) (.c (rlr 3 hu) (.c (as_ne_t (by omega)) .nil))) fun a hS => sge hK3 ?_
  refine cond_t hS rfl ?_
  refine sdq 1 [.p] [] [] [] hS .nil fun a hS => wpIn_ret <| then_ret ?_
  refine ret1 hS Tryd.results35 rfl ?_
  exact ⟨by rw [decide_eq_false (fun h => by rw [h] at hlx; omega)], hE0⟩
 ·
  refine rgn 5 <| sd ww [.p, .run (I6 n), .p, .run (I6 m), .as (.bool false)] [Rv (Builtin.len_ #[51] 3 #[v]) (I6 n) w, Rv (Builtin.len_ #[51] 3 #[u]) (I6 m) w, Value.bool (((↑n : Int) != ↑m)) = .bool false] [(10, .bool false)] [] 5 0 hS (.c (rlr 3 hv) (.c (rlr 3 hu) (.c (as_ne_f (by omega)) .nil))) fun a hS => sge hK3 ?_
  refine cond_f hS rfl ?_
  refine wpIn_skip <| hK2 _ _ <| sq fun K5 hK5 => sdq 1 [.p] [] [(5, I6 0)] [] hS .nil fun a hS => wpIn_block ?_
  refine loop_ghost (fun (i : Nat) a' w' => St 26 [] [(0, v), (1, u), (5, I6 i)] a' ∧ Ext [] w w' ∧ i ≤ n ∧ xs.take i = ys.take i) (fun (i : Nat) => n - i) 0 ⟨hS.keepTo [0, 1, 5] (by kernel_rfl), hE0, by omega, rfl⟩ ?_
  rintro i a wl7 ⟨hS, hXl7, hi, ht⟩
  refine sq fun K8 hK8 => sdq 4 [.p, .p, .run (I6 n), .p] [Rv (Builtin.len_ #[51] 3 #[v]) (I6 n) wl7] [(14, .bool (decide ((↑i : Int) < ↑n)))] [] hS (.c (rlr 3 hv) .nil) fun a hS => ?_
  refine cond_b hS rfl (fun hb10 => ?_) (fun hb10 => ?_)
  ·
   replace hb10 := of_decide_eq_true hb10
   obtain ⟨x, hx⟩ : ∃ x, xs[i]? = some x := ⟨_, List.getElem?_eq_getElem (by omega)⟩
   obtain ⟨y, hy⟩ : ∃ y, ys[i]? = some y := ⟨_, List.getElem?_eq_getElem (by omega)⟩
   refine wpIn_skip <| hK8 _ _ <| sq fun K11 hK11 => wpIn_block <| sq fun K12 hK12 => ?_
   rcases (show (¬x = y) ∨ (x = y) from by omega) with h2 | h2
   ·
    refine fn3 [.q .p, .q .p, .q (.run ((Po (bof v) (oof v + i * 1)))), .q (.ld (I6 x)), .q .p, .q .p, .q (.run ((Po (bof u) (oof u + i * 1)))), .q (.ld (I6 y)), .q (.as (.bool true))] [0, 0, 0, 0, 0, 0, 0, 0, 0] [0, 0, 0, 0, 0, 0, 0, 0, 0] [0, 0, 3, 7, 0, 0, 48, 112, 255] [] 0 ([(0, v), (1, u), (5, I6 i), (14, .bool (decide ((↑i : Int) < ↑n))), (17, v), (18, I6 i), (19, (Po (bof v) (oof v + i * 1))), (20, I6 x), (21, u), (22, I6 i), (23, (Po (bof u) (oof u + i * 1))), (24, I6 y), (25, .bool true)]) [wl7.drew] wl7.drew (fun w' => [(2, [Rv (Instr.indexAt 51 (v) (I6 i)) ((Po (bof v) (oof v + i * 1))) w']), (3, [w'.cell? ⟨bof v, oof v + i * 1, none⟩ = some (I6 x)]), (6, [Rv (Instr.indexAt 51 (u) (I6 i)) ((Po (bof u) (oof u + i * 1))) w']), (7, [w'.cell? ⟨bof u, oof u + i * 1, none⟩ = some (I6 y)]), (8, [Value.bool (((↑x : Int) != ↑y)) = .bool true])]) [0, 1, 5, 14] [] hS (fun _ => by kernel_rfl) ?_ ?_ ?_
    ·intro e w' hw
     refine (.c ?_ (.c ?_ (.c ?_ (.c ?_ (.c ?_ .nil)))))
     ·exact fun _ _ => (.c (ixr 3 i hv) .nil)
     ·intro h1 h2
      obtain rfl : e = 0 := Nat.le_antisymm h2 h1
      obtain rfl : w' = wl7.drew := hw.trans (by kernel_rfl)
      exact (.c ((hv.ext0 (hXl7.trans0 (by first | exact (Ext.refl [] _).drew | exact Ext.refl [] _))).cellAt (i * 1) (by omega) (ivs_at' hx)) .nil)
     ·exact fun _ _ => (.c (ixr 3 i hu) .nil)
     ·intro h1 h2
      obtain rfl : e = 0 := Nat.le_antisymm h2 h1
      obtain rfl : w' = wl7.drew := hw.trans (by kernel_rfl)
      exact (.c ((hu.ext0 (hXl7.trans0 (by first | exact (Ext.refl [] _).drew | exact Ext.refl [] _))).cellAt (i * 1) (by omega) (ivs_at' hy)) .nil)
     ·exact fun _ _ => (.c (as_ne_t (by omega)) .nil)
    ·refine .nil
    rintro a w14 hS hw15
    replace hw15 : w14 = wl7.drew := hw15.trans (by kernel_rfl)
    have hE16 : Ext [] w w14 := by rw [hw15]; exact hXl7.drew
    replace hS := hS.kp [(0, v), (1, u), (5, I6 i), (14, .bool (decide ((↑i : Int) < ↑n))), (25, .bool true)]
    refine hK12 _ _ ?_
    refine cond_t hS rfl ?_
    refine sdq 1 [.p] [] [(4, .bool false)] [] hS .nil fun a hS => wpIn_ret <| inBlock_ret <| then_ret <| then_ret <| inBlock_ret <| then_ret ?_
    refine ret1 hS Tryd.results35 rfl ?_
    exact ⟨by rw [decide_eq_false (fun h => by rw [h, hy] at hx; cases hx; exact h2 rfl)], hE16⟩
   ·
    refine fn3 [.q .p, .q .p, .q (.run ((Po (bof v) (oof v + i * 1)))), .q (.ld (I6 x)), .q .p, .q .p, .q (.run ((Po (bof u) (oof u + i * 1)))), .q (.ld (I6 y)), .q (.as (.bool false))] [0, 0, 0, 0, 0, 0, 0, 0, 0] [0, 0, 0, 0, 0, 0, 0, 0, 0] [0, 0, 3, 7, 0, 0, 48, 112, 255] [] 0 ([(0, v), (1, u), (5, I6 i), (14, .bool (decide ((↑i : Int) < ↑n))), (17, v), (18, I6 i), (19, (Po (bof v) (oof v + i * 1))), (20, I6 x), (21, u), (22, I6 i), (23, (Po (bof u) (oof u + i * 1))), (24, I6 y), (25, .bool false)]) [wl7.drew] wl7.drew (fun w' => [(2, [Rv (Instr.indexAt 51 (v) (I6 i)) ((Po (bof v) (oof v + i * 1))) w']), (3, [w'.cell? ⟨bof v, oof v + i * 1, none⟩ = some (I6 x)]), (6, [Rv (Instr.indexAt 51 (u) (I6 i)) ((Po (bof u) (oof u + i * 1))) w']), (7, [w'.cell? ⟨bof u, oof u + i * 1, none⟩ = some (I6 y)]), (8, [Value.bool (((↑x : Int) != ↑y)) = .bool false])]) [0, 1, 5, 14] [] hS (fun _ => by kernel_rfl) ?_ ?_ ?_
    ·intro e w' hw
     refine (.c ?_ (.c ?_ (.c ?_ (.c ?_ (.c ?_ .nil)))))
     ·exact fun _ _ => (.c (ixr 3 i hv) .nil)
     ·intro h1 h2
      obtain rfl : e = 0 := Nat.le_antisymm h2 h1
      obtain rfl : w' = wl7.drew := hw.trans (by kernel_rfl)
      exact (.c ((hv.ext0 (hXl7.trans0 (by first | exact (Ext.refl [] _).drew | exact Ext.refl [] _))).cellAt (i * 1) (by omega) (ivs_at' hx)) .nil)
     ·exact fun _ _ => (.c (ixr 3 i hu) .nil)
     ·intro h1 h2
      obtain rfl : e = 0 := Nat.le_antisymm h2 h1
      obtain rfl : w' = wl7.drew := hw.trans (by kernel_rfl)
      exact (.c ((hu.ext0 (hXl7.trans0 (by first | exact (Ext.refl [] _).drew | exact Ext.refl [] _))).cellAt (i * 1) (by omega) (ivs_at' hy)) .nil)
     ·exact fun _ _ => (.c (as_ne_f (by omega)) .nil)
    ·refine .nil
    rintro a w19 hS hw20
    replace hw20 : w19 = wl7.drew := hw20.trans (by kernel_rfl)
    have hE21 : Ext [] w w19 := by rw [hw20]; exact hXl7.drew
    replace hS := hS.kp [(0, v), (1, u), (5, I6 i), (14, .bool (decide ((↑i : Int) < ↑n))), (25, .bool false)]
    refine hK12 _ _ ?_
    refine cond_f hS rfl ?_
    refine wpIn_skip <| inBlock_normal <| hK11 _ _ <| rgn 3 <| sd ww [.p, .as (I6 (↑i + 1)), .p] [_] [(5, I6 (↑i + 1))] [] 3 0 hS (as6 (↑i + 1)) fun a hS => seg_end ?_
    exact ⟨i + 1, ⟨hS.kp [(0, v), (1, u), (5, I6 (↑i + 1))], hE21, by omega, SameP.step ht hx hy h2⟩, by omega⟩
  ·
   replace hb10 := of_decide_eq_false hb10
   rw [List.take_of_length_le (by omega), List.take_of_length_le (by omega)] at ht
   refine wpIn_exit <| then_exit <| then_exit <| inBlock_hit <| hK5 _ _ <| sdq 1 [.p] [] [(4, .bool true)] [] hS .nil fun a hS => wpIn_ret ?_
   refine ret1 hS Tryd.results35 rfl ?_
   exact ⟨by rw [decide_eq_true ht], hXl7⟩
theorem SameInts_eq {w : World} {v u : Value} {n m : Nat} {xs : List Nat} (hv : RdV w 1 v n (ivs xs)) (hu : RdV w 1 u m (ivs xs)) (hn : n ≤ 1048576) :
  Calls Tryd.prog 35 #[v, u] w fun e w' => e = .returned (.bool true) ∧ Ext [] w w' := by
 refine (SameInts_any hv hu hn).mono ?_
 rintro e w' ⟨h1, h2⟩
 exact ⟨by rw [h1, decide_eq_true rfl], h2⟩
theorem FirR.max {S : Sp} {ls : List (List Nat)} (h : FirR S ls) : ∀ l ∈ ls, l.length ≤ 1048576 := fun l hl => by
 obtain ⟨fs, rfl, _⟩ := h
 obtain ⟨s, _, rfl⟩ := List.mem_map.1 hl
 have := tls_len s
 omega
theorem FolR.max {S : Sp} {ls : List (List Nat)} (h : FolR S ls) : ∀ l ∈ ls, l.length ≤ 1048576 := fun l hl => by
 obtain ⟨fs, rfl, _⟩ := h
 obtain ⟨s, _, rfl⟩ := List.mem_map.1 hl
 have := tls_len s
 omega
theorem YldR.max {S : Sp} {vs : List Nat} {ls : List (List Nat)} (hL : LenR S vs) (h0 : (fY vs 0).1 = 0) (h : YldR S ls) : ∀ l ∈ ls, l.length ≤ 4096 := fun l hl => by
 obtain ⟨i, hi⟩ := List.getElem?_of_mem hl
 have h1 := h.2 i l hi
 have hlen := hL.len
 have hn := h.1
 obtain ⟨v, hv⟩ : ∃ v, vs[i]? = some v := ⟨_, List.getElem?_eq_getElem (by have := (List.getElem?_eq_some_iff.1 hi).1; omega)⟩
 have h2 := fY_ok.1 h0 v (List.mem_of_getElem? hv)
 have h3 := hL.c.snd i (by rw [vf_at hv]; omega)
 rw [vf_at hv] at h3
 obtain ⟨u, hu, he⟩ := (CN_MN (nl := S.nl)).1 h3
 have := leq_len (h1.2 u hu)
 omega
theorem YoR.max {S : Sp} {k at' : Int} {bs : Option Addr} {m cp : Nat} {L : List Rw} {ls : List (List Nat)} (h : YoR S k at' bs m cp L ls) : ∀ l ∈ ls, l.length ≤ 1048576 := fun l hl => by
 obtain ⟨vs, hL, h | h⟩ := h
 ·rw [h.2.2.2.2.2.2.2] at hl; cases hl
 ·have := YldR.max hL h.2.2.1 h.2.2.2.2 l hl
  omega
theorem sameRows_eq {w : World} {v u : Value} {n : Nat} {ls : List (List Nat)} (h1 : RdL w v n ls) (h2 : RdL w u n ls) (hn : n ≤ 1048576) :
  Calls Tryd.prog 26 #[v, u] w fun e w' => e = .returned (.bool true) ∧ Ext [] w w' := by
 obtain ⟨⟨va, hv, hva, hra⟩, hln, hmx⟩ := h1
 obtain ⟨⟨vb, hu, hvb, hrb⟩, _, _⟩ := h2
 refine cbd 27 [(0, v), (1, u)] Tryd.func26 rfl fun a hS => ?_
 have hE0 : Ext [] w w := Ext.refl _ _
 refine sq fun K1 hK1 => rgn 1 <| sg ww [.p] [] [(0, v), (1, u), (4, .bool false)] 1 0 hS .nil fun a hS => sge hK1 <| sq fun K2 hK2 => sdq 5 [.p, .run (I6 n), .p, .run (I6 n), .as (.bool false)] [Rv (Builtin.len_ #[37] 3 #[v]) (I6 n) w, Rv (Builtin.len_ #[37] 3 #[u]) (I6 n) w, Value.bool (((↑n : Int) != ↑n)) = .bool false] [(10, .bool false)] [] hS (.c (rlr 51 hv) (.c (rlr 51 hu) (.c (as_ne_f (rfl)) .nil))) fun a hS => ?_
 refine cond_f hS rfl ?_
 refine wpIn_skip <| hK2 _ _ <| sq fun K4 hK4 => sdq 1 [.p] [] [(5, I6 0)] [] hS .nil fun a hS => wpIn_block ?_
 refine loop_ghost (fun (i : Nat) a' w' => St 27 [] [(0, v), (1, u), (5, I6 i)] a' ∧ Ext [] w w' ∧ i ≤ n) (fun (i : Nat) => n - i) 0 ⟨hS.keepTo [0, 1, 5] (by kernel_rfl), hE0, by omega⟩ ?_
 rintro i a wl6 ⟨hS, hXl6, hi⟩
 refine sq fun K7 hK7 => sdq 4 [.p, .p, .run (I6 n), .p] [Rv (Builtin.len_ #[37] 3 #[v]) (I6 n) wl6] [(14, .bool (decide ((↑i : Int) < ↑n)))] [] hS (.c (rlr 51 hv) .nil) fun a hS => ?_
 refine cond_b hS rfl (fun hb9 => ?_) (fun hb9 => ?_)
 ·
  replace hb9 := of_decide_eq_true hb9
  obtain ⟨l, hl⟩ : ∃ l, ls[i]? = some l := ⟨_, List.getElem?_eq_getElem (by omega)⟩
  obtain ⟨xv, hx, hxr⟩ := hra i l hl
  obtain ⟨yv, hy, hyr⟩ := hrb i l hl
  have hlm := hmx l (List.mem_of_getElem? hl)
  refine wpIn_skip <| hK7 _ _ <| sq fun K10 hK10 => wpIn_block <| sq fun K11 hK11 => ?_
  refine gh3 (G := World) [.q .p, .q .p, .q (.run ((Po (bof v) (oof v + i * 1)))), .q (.ld (xv)), .q .p, .q .p, .q (.run ((Po (bof u) (oof u + i * 1)))), .q (.ld (yv)), .e, .q .p] [0, 0, 0, 0, 0, 0, 0, 0, 0, 1] [0, 0, 0, 0, 0, 0, 0, 0, 0, 1] [0, 0, 3, 7, 0, 0, 48, 112, 255, 511] [8] [(8, 0)] 1 (fun wc12 => ([(0, v), (1, u), (5, I6 i), (14, .bool (decide ((↑i : Int) < ↑n))), (17, v), (18, I6 i), (19, (Po (bof v) (oof v + i * 1))), (20, xv), (21, u), (22, I6 i), (23, (Po (bof u) (oof u + i * 1))), (24, yv), (25, .bool true), (26, .bool false)] : Fm)) (fun wc12 => [wl6.drew, wc12]) (wl6.drew) (fun e wc12 => hAt [True, (Ext [] wl6.drew wc12) ∧ True] e) (fun wc12 w' => [(2, [Rv (Instr.indexAt 37 (v) (I6 i)) ((Po (bof v) (oof v + i * 1))) w']), (3, [w'.cell? ⟨bof v, oof v + i * 1, none⟩ = some (xv)]), (6, [Rv (Instr.indexAt 37 (u) (I6 i)) ((Po (bof u) (oof u + i * 1))) w']), (7, [w'.cell? ⟨bof u, oof u + i * 1, none⟩ = some (yv)])]) wl6.drew [0, 1, 5, 14] [] hS (fun wc12 _ => by kernel_rfl) trivial ?_ ?_ ?_
  ·rintro e wc12 w' hw hH
   refine (.c ?_ (.c ?_ (.c ?_ (.c ?_ .nil))))
   ·intro h1 h2
    obtain rfl : e = 0 := Nat.le_antisymm h2 h1
    have hwe : wl6.drew = w' := (hw.trans (by kernel_rfl)).symm
    subst hwe
    clear hH
    exact (.c (ixr 51 i hv) .nil)
   ·intro h1 h2
    obtain rfl : e = 0 := Nat.le_antisymm h2 h1
    have hwe : wl6.drew = w' := (hw.trans (by kernel_rfl)).symm
    subst hwe
    clear hH
    exact (.c ((hv.ext0 (hXl6.trans0 (by first | exact (Ext.refl [] _).drew | exact Ext.refl [] _))).cellAt (i * 1) (by omega) (by rw [Nat.mul_one]; exact hx)) .nil)
   ·intro h1 h2
    obtain rfl : e = 0 := Nat.le_antisymm h2 h1
    have hwe : wl6.drew = w' := (hw.trans (by kernel_rfl)).symm
    subst hwe
    clear hH
    exact (.c (ixr 51 i hu) .nil)
   ·intro h1 h2
    obtain rfl : e = 0 := Nat.le_antisymm h2 h1
    have hwe : wl6.drew = w' := (hw.trans (by kernel_rfl)).symm
    subst hwe
    clear hH
    exact (.c ((hu.ext0 (hXl6.trans0 (by first | exact (Ext.refl [] _).drew | exact Ext.refl [] _))).cellAt (i * 1) (by omega) (by rw [Nat.mul_one]; exact hy)) .nil)
  ·refine (.c ?eq13_8 .nil)
   ·rintro wc12 hH
    clear hH
    refine eff_gh (wl6.drew) (by kernel_rfl) ?_
    refine upon_call (f := 35) (vs := [xv, yv]) (cap := #[]) (d := (some 25)) (by kernel_rfl) Tryd.call35 #[xv, yv] (by kernel_rfl) (SameInts_eq (hxr.ext0 (hXl6.trans0 ((Ext.refl [] _).drew))) (hyr.ext0 (hXl6.trans0 ((Ext.refl [] _).drew))) hlm) ?_
    rintro _ wc12 ⟨rfl, hEc12⟩
    exact ⟨_, rfl, ⟨wc12, by kernel_rfl, by kernel_rfl, by kernel_rfl, ⟨hEc12, trivial⟩⟩⟩
  rintro wc12 a w14 hS hw15 hH
  obtain ⟨hEc12, _⟩ := hH
  replace hw15 : w14 = wc12 := hw15.trans (by kernel_rfl)
  have hE16 : Ext [] w w14 := by rw [hw15]; exact (hXl6.drew).trans0 hEc12
  replace hS := hS.kp [(0, v), (1, u), (5, I6 i), (14, .bool (decide ((↑i : Int) < ↑n))), (26, .bool false)]
  refine hK11 _ _ ?_
  refine cond_f hS rfl ?_
  refine wpIn_skip <| inBlock_normal <| hK10 _ _ <| rgn 3 <| sd ww [.p, .as (I6 (↑i + 1)), .p] [_] [(5, I6 (↑i + 1))] [] 3 0 hS (as6 (↑i + 1)) fun a hS => seg_end ?_
  exact ⟨i + 1, ⟨hS.kp [(0, v), (1, u), (5, I6 (↑i + 1))], hE16, by omega⟩, by omega⟩
 ·
  replace hb9 := of_decide_eq_false hb9
  refine wpIn_exit <| then_exit <| then_exit <| inBlock_hit <| hK4 _ _ <| sdq 1 [.p] [] [(4, .bool true)] [] hS .nil fun a hS => wpIn_ret ?_
  refine ret1 hS Tryd.results26 rfl ?_
  exact ⟨rfl, hXl6⟩
end Go.Proofs.YtkkpghlcmcaoiaaDoor
