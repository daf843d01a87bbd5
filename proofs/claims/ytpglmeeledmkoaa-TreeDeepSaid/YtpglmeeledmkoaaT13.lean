import Derived.Test.YtpglmeeledmkoaaProg
import Derived.Test.YtpglmeeledmkoaaVc
import Derived.Test.YtpglmeeledmkoaaT12
namespace Go.Proofs.Ytpglmeeledmkoaa
open Go.Vc

/-- a chain of nodes, each the only child but one, the other a -/
def Chain (a : Tr) : Nat → Tr → Prop
  | 0, x => x = a
  | n + 1, x => ∃ y, Chain a n y ∧ x.kids = [y, a] ∧ x.kd = 2

structure One (a : Tr) : Prop where
  kd : a.kd = 1
  wd : a.wd = 1
  lf : a.lf = 1
  tt : a.tt = 1
  fl : a.fl = false
  kids : a.kids = []

theorem chain_num {w : World} {sb : Nat} {a : Tr} (ha : One a) : ∀ (n : Nat) (x : Tr), Chain a n x → x.Ok w sb → x.wd = n + 1 ∧ x.lf = n + 1 ∧ x.tt = 2 * n + 1 ∧ x.fl = false
  | 0, x, h, _ => by
    have h : x = a := h
    subst h
    exact ⟨by rw [ha.wd]; rfl, by rw [ha.lf]; rfl, by rw [ha.tt]; rfl, ha.fl⟩
  | n + 1, x, ⟨y, hy, hk, hkd⟩, hok => by
    have hyok : y.Ok w sb := hok.oks.at (by rw [hk]; simp)
    obtain ⟨h1, h2, h3, h4⟩ := chain_num ha n y hy hyok
    obtain ⟨_, _, _, _, _, _, _, e1, e2, e3, e4⟩ := hok.nums.inner (by rw [hkd]; decide)
    rw [hk] at e1 e2 e3 e4
    simp only [sumW, sumL, sumT, anyF, ha.wd, ha.lf, ha.tt, ha.fl, h1, h2, h3, h4, hkd] at e1 e2 e3 e4
    refine ⟨by omega, by omega, by omega, ?_⟩
    rw [e4]; decide

theorem chain_leaves {w : World} {sb : Nat} {a : Tr} (ha : One a) : ∀ (n : Nat) (x : Tr), Chain a n x → x.Ok w sb → ∀ p, (walk x p).filter isLeaf = (List.range (n + 1)).map fun (k : Nat) => (p + (k : Int), a)
  | 0, x, h, _, p => by
    have h : x = a := h
    subst h
    rw [walk_eq, ha.kids]
    simp [walks, isLeaf, ha.kd]
  | n + 1, x, ⟨y, hy, hk, hkd⟩, hok, p => by
    have hyok : y.Ok w sb := hok.oks.at (by rw [hk]; simp)
    have ih := chain_leaves ha n y hy hyok p
    have hw := (chain_num ha n y hy hyok).1
    rw [walk_eq, hk, List.filter_cons_of_neg (by simp [isLeaf, hkd])]
    simp only [walks, List.append_nil, List.filter_append, ih]
    rw [walk_eq a, ha.kids, List.range_succ (n := n + 1), List.map_append]
    simp [walks, isLeaf, ha.kd, hw]

theorem chain_to0 {w : World} {sb : Nat} {a : Tr} (ha : One a) {q : Int} : ∀ (n : Nat) (x : Tr), Chain a n x → x.Ok w sb → ∀ (p : Int) (st : List Stp) (c : Tr) (r : Int), ToR q x p st c r → p ≤ q → q < p + 1 →
    st.length = n ∧ c = a ∧ r = p ∧ ∀ s l, st = s :: l → s.1 = x
  | 0, x, h, _, p, st, c, r, ht, _, _ => by
    have h : x = a := h
    subst h
    cases ht with
    | leaf _ => exact ⟨rfl, rfl, rfl, fun s l h => by cases h⟩
    | step hk _ _ _ _ => exact absurd ha.kd hk
  | n + 1, x, ⟨y, hy, hk, hkd⟩, hok, p, st, c, r, ht, hp, hq => by
    have hyok : y.Ok w sb := hok.oks.at (by rw [hk]; simp)
    have hw := (chain_num ha n y hy hyok).1
    cases ht with
    | leaf h1 => rw [hkd] at h1; cases h1
    | step h1 h2 h3 h4 h5 =>
      rename_i st' k kid
      rw [hk] at h2 h3 h4 h5
      cases k with
      | zero =>
        simp at h2
        subst h2
        simp only [List.take_zero, sumW, Int.add_zero] at h5
        obtain ⟨e1, e2, e3, _⟩ := chain_to0 ha n y hy hyok p st' c r h5 hp hq
        refine ⟨by simp [e1], e2, e3, fun s l h => ?_⟩
        simp only [List.cons.injEq] at h
        rw [← h.1]
      | succ k =>
        exfalso
        have h6 : sumW (List.take (k + 1) [y, a]) ≥ y.wd := by
          cases k with
          | zero => simp [sumW]
          | succ k => simp [sumW, ha.wd]; omega
        omega

theorem chain_ton {w : World} {sb : Nat} {a : Tr} (ha : One a) {n : Nat} {x : Tr} (h : Chain a (n + 1) x) (hok : x.Ok w sb) {st : List Stp} {c : Tr} {r : Int} (ht : ToR ((n : Int) + 1) x 0 st c r) : st.length = 1 := by
  obtain ⟨y, hy, hk, hkd⟩ := h
  have hyok : y.Ok w sb := hok.oks.at (by rw [hk]; simp)
  have hw := (chain_num ha n y hy hyok).1
  cases ht with
  | leaf h1 => rw [hkd] at h1; cases h1
  | step h1 h2 h3 h4 h5 =>
    rename_i st' k kid
    rw [hk] at h2 h3 h4 h5
    match k, h2 with
    | 0, h2 =>
      simp at h2
      subst h2
      simp [sumW] at h4
      omega
    | 1, h2 =>
      simp at h2
      subst h2
      cases h5 with
      | leaf _ => rfl
      | step hk _ _ _ _ => exact absurd ha.kd hk
    | k + 2, h2 => simp at h2

theorem Deep_lt (n : Int) (w : World) (hn : n < 1) :
    Calls Try.prog 8 #[.int .i64 n] w fun e w' => e = .returned (.bool true) ∧ Ext [] w w' := by
  refine calls_bodyM 167 [(0, .int .i64 n)] Try.func8 rfl (by kernel_rfl) (by kernel_rfl) (by kernel_rfl) fun a hS => ?_
  have hE0 : Ext [] w w := Ext.refl _ _
  refine wpIn_seq_k fun K1 hK1 => ?_
  refine region 1 (by kernel_rfl) ?_
  refine eff_box wide_wide (r := 0) (cs := #[.bool false]) (T := 4) (d := (some 2)) hS (by kernel_rfl) fun a w2 hw3 hS => ?_
  have hB4 : Blk w2 (w.heap.size) 4 #[.bool false] := by rw [hw3]; exact Blk.new _ _ _
  have hs5 : w.heap.size ≤ w.heap.size := hE0.size
  have hE6 : Ext [] w w2 := by rw [hw3]; exact hE0.alloc _
  refine seg_end ?_
  refine hK1 _ _ ?_
  refine wpIn_seq_k fun K7 hK7 => ?_
  refine wpIn_seq_k fun K8 hK8 => ?_
  refine region 10 (by kernel_rfl) ?_
  refine seg wide_wide [.p, .as (.bool true), .p, .no, .no, .p, .p, .no, .no, .p] [0, 2, 24] [Value.bool (decide ((n : Int) < 1)) = .bool true] [(0, .int .i64 n), (2, .pointer (some ⟨w.heap.size, 0, none⟩)), (24, .bool true)] 10 0 hS (by kernel_rfl) (by kernel_rfl) (by kernel_rfl) (.cons (as_t (by omega)) .nil) fun a hS => ?_
  refine seg_end ?_
  refine hK8 _ _ ?_
  refine cond_t hS rfl ?_
  refine wpIn_seq_k fun K9 hK9 => ?_
  refine region 2 (by kernel_rfl) ?_
  refine eff_call wide_wide (r := 1) (f := 17) (vs := []) (cap := #[]) (d := (some 25)) hS (by kernel_rfl) Try.call17 #[] (by kernel_rfl) (Head_any w2) ?_
  rintro _ wh10 ⟨rfl, hx11⟩
  refine ⟨_, rfl, fun a hS => ?_⟩
  have hE12 := hE6.trans0 hx11
  have hB13 : Blk wh10 w.heap.size 4 (#[.bool false]) := hB4.ext hx11 (by simp)
  refine eff_store wide_wide (r := 0) (b := w.heap.size) (off := 0) (vs := [.bool true]) hS (by kernel_rfl) hB13 (by simp) fun a w14 hw15 hS => ?_
  have hB16 : Blk w14 w.heap.size 4 (#[.bool true]) := by rw [hw15]; exact hB13.upd _ _
  have hE17 : Ext [] w w14 := by rw [hw15]; exact hE12.updIn (.inr hs5) _ _
  refine seg_end ?_
  refine hK9 _ _ ?_
  refine wpIn_ret ?_
  refine then_ret ?_
  refine retMc [] (T' := 4) hS Try.results8 (by kernel_rfl) rfl hB16 (by simp) (by simp) fun w9 hE9 => ?_
  exact ⟨rfl, hE17.trans0 hE9⟩

theorem Deep_gt (n : Int) (w : World) (hn : 1 ≤ n ∧ 1048576 < n) :
    Calls Try.prog 8 #[.int .i64 n] w fun e w' => e = .returned (.bool true) ∧ Ext [] w w' := by
  refine calls_bodyM 167 [(0, .int .i64 n)] Try.func8 rfl (by kernel_rfl) (by kernel_rfl) (by kernel_rfl) fun a hS => ?_
  have hE0 : Ext [] w w := Ext.refl _ _
  refine wpIn_seq_k fun K1 hK1 => ?_
  refine region 1 (by kernel_rfl) ?_
  refine eff_box wide_wide (r := 0) (cs := #[.bool false]) (T := 4) (d := (some 2)) hS (by kernel_rfl) fun a w2 hw3 hS => ?_
  have hB4 : Blk w2 (w.heap.size) 4 #[.bool false] := by rw [hw3]; exact Blk.new _ _ _
  have hs5 : w.heap.size ≤ w.heap.size := hE0.size
  have hE6 : Ext [] w w2 := by rw [hw3]; exact hE0.alloc _
  refine seg_end ?_
  refine hK1 _ _ ?_
  refine wpIn_seq_k fun K7 hK7 => ?_
  refine wpIn_seq_k fun K8 hK8 => ?_
  refine region 10 (by kernel_rfl) ?_
  refine seg wide_wide [.p, .as (.bool false), .p, .p, .as (.bool true), .p, .p, .no, .no, .p] [0, 2, 24] [Value.bool (decide ((n : Int) < 1)) = .bool false, Value.bool (decide ((n : Int) > 1048576)) = .bool true] [(0, .int .i64 n), (2, .pointer (some ⟨w.heap.size, 0, none⟩)), (24, .bool true)] 10 0 hS (by kernel_rfl) (by kernel_rfl) (by kernel_rfl) (.cons (as_f (by omega)) (.cons (as_t (by omega)) .nil)) fun a hS => ?_
  refine seg_end ?_
  refine hK8 _ _ ?_
  refine cond_t hS rfl ?_
  refine wpIn_seq_k fun K9 hK9 => ?_
  refine region 2 (by kernel_rfl) ?_
  refine eff_call wide_wide (r := 1) (f := 17) (vs := []) (cap := #[]) (d := (some 25)) hS (by kernel_rfl) Try.call17 #[] (by kernel_rfl) (Head_any w2) ?_
  rintro _ wh10 ⟨rfl, hx11⟩
  refine ⟨_, rfl, fun a hS => ?_⟩
  have hE12 := hE6.trans0 hx11
  have hB13 : Blk wh10 w.heap.size 4 (#[.bool false]) := hB4.ext hx11 (by simp)
  refine eff_store wide_wide (r := 0) (b := w.heap.size) (off := 0) (vs := [.bool true]) hS (by kernel_rfl) hB13 (by simp) fun a w14 hw15 hS => ?_
  have hB16 : Blk w14 w.heap.size 4 (#[.bool true]) := by rw [hw15]; exact hB13.upd _ _
  have hE17 : Ext [] w w14 := by rw [hw15]; exact hE12.updIn (.inr hs5) _ _
  refine seg_end ?_
  refine hK9 _ _ ?_
  refine wpIn_ret ?_
  refine then_ret ?_
  refine retMc [] (T' := 4) hS Try.results8 (by kernel_rfl) rfl hB16 (by simp) (by simp) fun w9 hE9 => ?_
  exact ⟨rfl, hE17.trans0 hE9⟩

end Go.Proofs.Ytpglmeeledmkoaa
