import Derived.Test.YtpglmeeledmkoaaProg
import Derived.Test.YtpglmeeledmkoaaVc
import Derived.Test.YtpglmeeledmkoaaT5
namespace Go.Proofs.Ytpglmeeledmkoaa
open Go.Vc

/-- the rows of so many, or one more than are let in -/
def cap5 (x : Int) : Int := if 4194305 < x then 4194305 else x
def kt (ks : List (Nat × Tr)) : List Tr := ks.map (·.2)

theorem Clone_ks {v : Value} {ks : List (Nat × Tr)} {w : World} (hv : OwnV w 47 1 v ks.length (ks.map fun q => q.2.ptr)) (hlen : ks.length ≤ 17592186044416) :
  Calls Try.prog 54 #[v] w fun e w' => ∃ bs cap, e = .returned (.slice bs ks.length cap) ∧ OwnV w' 47 1 (.slice bs ks.length cap) ks.length (ks.map fun q => q.2.ptr) ∧ Ext [] w w' ∧ (∀ b ∈ ob (.slice bs ks.length cap), w.heap.size ≤ b) := by
 have hl : (ks.map fun q => q.2.b).length = ks.length := by simp
 have hm : (ks.map fun q => q.2.b).map pv = (ks.map fun q => q.2.ptr) := by rw [List.map_map]; rfl
 refine (Clone_any (ps := ks.map fun q => q.2.b) (by rw [hl, hm]; exact hv) (by rw [hl]; exact hlen)).mono fun e w' ⟨v', h1, h2, h3, h4, _, bs, cap, h5⟩ => ?_
 subst h5
 rw [hl, hm] at h2
 rw [hl] at h1 h4
 exact ⟨bs, cap, h1, h2, h3, h4⟩

theorem sumT_nonneg {w : World} : ∀ {l : List (Nat × Tr)}, (∀ q ∈ l, q.2.Ok w q.1) → 0 ≤ sumT (kt l)
 | [], _ => by simp [kt, sumT]
 | q :: l, h => by
  have h1 := (Tr.Ok.tt_pos q.2 (h q (by simp))).1
  have h2 := sumT_nonneg (l := l) (fun q hq => h q (by simp [hq]))
  simp only [kt, List.map_cons, sumT] at h2 ⊢
  omega

theorem sumL_append : ∀ (l l' : List Tr), sumL (l ++ l') = sumL l + sumL l'
 | [], l' => by simp [sumL]
 | t :: l, l' => by simp [sumL, sumL_append l l']; omega
theorem anyF_append : ∀ (l l' : List Tr), anyF (l ++ l') = (anyF l || anyF l')
 | [], l' => by simp [anyF]
 | t :: l, l' => by simp [anyF, anyF_append l l', Bool.or_assoc]

/-- what the loop over the children has summed up -/
structure Sums (fb : Bool) (l : List (Nat × Tr)) (W L TT : Int) (fl : Bool) : Prop where
 tt : TT = cap5 (1 + sumT (kt l))
 wl : 1 + sumT (kt l) ≤ 4194304 → W = sumW (kt l) ∧ L = sumL (kt l)
 fl : fl = (fb || anyF (kt l))

theorem wrap64_id {z : Int} (h : -9223372036854775808 ≤ z ∧ z ≤ 9223372036854775807) : IntKind.i64.wrap z = z := by
 have := as_i64 h; simpa using this

theorem Sums.step {w : World} {fb : Bool} {l : List (Nat × Tr)} {W L TT : Int} {fl : Bool} (h : Sums fb l W L TT fl) (hl : ∀ q ∈ l, q.2.Ok w q.1) {sk : Nat} {tk : Tr} (hok : tk.Ok w sk) :
  Sums fb (l ++ [(sk, tk)]) (IntKind.i64.wrap (W + tk.wd)) (IntKind.i64.wrap (L + tk.lf)) (cap5 (TT + tk.tt)) (fl || tk.fl) := by
 have h0 := sumT_nonneg hl
 obtain ⟨p1, p2, p3, p4, p5⟩ := Tr.Ok.tt_pos tk hok
 have hk : kt (l ++ [(sk, tk)]) = kt l ++ [tk] := by simp [kt]
 have e1 : sumT (kt l ++ [tk]) = sumT (kt l) + tk.tt := by rw [sumT_append]; simp [sumT]
 have e2 : sumW (kt l ++ [tk]) = sumW (kt l) + tk.wd := by rw [sumW_append]; simp [sumW]
 have e3 : sumL (kt l ++ [tk]) = sumL (kt l) + tk.lf := by rw [sumL_append]; simp [sumL]
 have e4 : anyF (kt l ++ [tk]) = (anyF (kt l) || tk.fl) := by rw [anyF_append]; simp [anyF]
 have hb : 1 + sumT (kt l) ≤ 4194304 → 0 ≤ sumW (kt l) ∧ sumW (kt l) ≤ 524288 * sumT (kt l) ∧ 0 ≤ sumL (kt l) ∧ sumL (kt l) ≤ sumT (kt l) := fun _ => by
  clear h h0 hk e1 e2 e3 e4
  induction l with
  | nil => simp [kt, sumT, sumW, sumL]
  | cons q l ih =>
   have h1 := Tr.Ok.tt_pos q.2 (hl q (by simp))
   have h2 := ih (fun q hq => hl q (by simp [hq])) (by
    have := sumT_nonneg (w := w) (l := l) (fun q hq => hl q (by simp [hq]))
    rename_i hle
    simp only [kt, List.map_cons, sumT] at hle this ⊢
    omega)
   simp only [kt, List.map_cons, sumT, sumW, sumL] at h2 ⊢
   omega
 refine ⟨?_, ?_, ?_⟩
 ·rw [hk, e1, h.tt]; unfold cap5; split <;> split <;> split <;> omega
 ·rw [hk, e1, e2, e3]
  intro hle
  obtain ⟨h1, h2⟩ := h.wl (by omega)
  have h3 := hb (by omega)
  rw [h1, h2, wrap64_id (by omega), wrap64_id (by omega)]
  exact ⟨rfl, rfl⟩
 ·rw [hk, e4, h.fl, Bool.or_assoc]

theorem Sums.bd {w : World} {fb : Bool} {l : List (Nat × Tr)} {W L TT : Int} {fl : Bool} (h : Sums fb l W L TT fl) (hl : ∀ q ∈ l, q.2.Ok w q.1) : 1 ≤ TT ∧ TT ≤ 4194305 := by
 have h0 := sumT_nonneg hl
 rw [h.tt]; unfold cap5; split <;> omega

def MakeOut (w : World) (sb : Nat) (x kd nn : Int) (ks : List (Nat × Tr)) (e : Ending) (w' : World) : Prop :=
 ((∃ q ∈ ks, q.1 ≠ sb) ∧ e = .returned (.tuple #[.pointer none, I6 100]) ∧ Ext [] w w') ∨
 ((∀ q ∈ ks, q.1 = sb) ∧ 4194304 < 1 + sumT (kt ks) ∧ e = .returned (.tuple #[.pointer none, I6 6]) ∧ Ext [] w w') ∨
 ((∀ q ∈ ks, q.1 = sb) ∧ 1 + sumT (kt ks) ≤ 4194304 ∧ ∃ nb vs, e = .returned (.tuple #[(Pv nb), I6 0]) ∧ w.heap.size ≤ nb ∧ (∀ b ∈ ob vs, w.heap.size ≤ b) ∧
  (Tr.node nb (x + 1) kd nn 0 0 0 0 vs (sumW (kt ks)) (sumL (kt ks)) (1 + sumT (kt ks)) ((kd == 3 || kd == 5) || anyF (kt ks)) (kt ks)).Ok w' sb ∧ Blk w' sb 102 #[I6 (x + 1)] ∧ Ext [sb] w w')

set_option maxHeartbeats 1000000 in
theorem Make_2 {sb : Nat} {x : Int} {n : Int} {v : Value} {ks : List (Nat × Tr)} {w : World} (hB : Blk w sb 102 #[I6 x]) (hx : 0 ≤ x ∧ x < 4611686018427387904) (hn : 0 ≤ n) (hv : OwnV w 47 1 v ks.length (ks.map fun q => q.2.ptr)) (hks : ∀ q ∈ ks, q.2.Ok w q.1 ∧ ∃ y, Blk w q.1 102 #[I6 y]) (hlen : ks.length ≤ 17592186044416) :
  Calls Try.prog 20 #[(Pv sb), I6 2, I6 n, v] w fun e w' => MakeOut w sb x 2 n ks e w' := by
 refine calls_body 118 [(0, (Pv sb)), (1, I6 2), (2, I6 n), (3, v)] Try.func20 rfl (by kernel_rfl) (by kernel_rfl) (by kernel_rfl) fun a hS => ?_
 have hE0 : Ext [] w w := Ext.refl _ _
 refine sq fun K1 hK1 => ?_
 refine rgn 2 ?_
 refine sg wide_wide [.p, .p] [] [(0, (Pv sb)), (1, I6 2), (2, I6 n), (3, v), (8, .pointer none), (9, I6 0)] 2 0 hS .nil fun a hS => ?_
 refine seg_end ?_
 refine hK1 _ _ ?_
 refine sq fun K2 hK2 => ?_
 refine sq fun K3 hK3 => ?_
 rcases Decidable.em (n = 0) with hn0 | hn0
 ·
  refine rgn 18 ?_
  refine sg wide_wide [.p, .p, .p, .p, .p, .p, .p, .p, .as (.bool false), .p, .p, .p, .as (.bool false), .p, .no, .no, .p, .p] [Value.bool (decide ((n : Int) < 0)) = .bool false, Value.bool (((n : Int) != 0)) = .bool false] [(0, (Pv sb)), (1, I6 2), (2, I6 n), (3, v), (8, .pointer none), (9, I6 0), (30, .bool false)] 18 0 hS (.cons (as_f (by omega)) (.cons (as_ne_f (by simpa using hn0)) .nil)) fun a hS => ?_
  refine seg_end ?_
  refine hK3 _ _ ?_
  refine cond_f hS rfl ?_
  refine wpIn_skip ?_
  refine hK2 _ _ ?_
  refine sq fun K4 hK4 => ?_
  refine rgn 14 ?_
  refine sg wide_wide [.p, .p, .p, .p] [] [(0, (Pv sb)), (1, I6 2), (2, I6 n), (3, v), (8, .pointer none), (9, I6 0), (30, .bool false), (31, (Pv sb)), (32, I6 2), (33, I6 n), (34, v)] 4 10 hS .nil fun a hS => ?_
  have hv5 := hv.ext hE0 (by simp)
  refine eff_call wide_wide (r := 9) (f := 54) (vs := [v]) (cap := #[]) (d := (some 35)) hS (by kernel_rfl) Try.call54 #[v] (by kernel_rfl) (Clone_ks hv5 (by omega)) ?_
  rintro _ wc ⟨bs, cap, rfl, hvs, hEc, hnvs⟩
  refine ⟨_, rfl, fun a hS => ?_⟩
  have hEc0 : Ext [] w wc := hE0.trans0 hEc
  replace hnvs : ∀ b ∈ ob (.slice bs ks.length cap), w.heap.size ≤ b := fun b hb => Nat.le_trans hE0.size (hnvs b hb)
  refine sg wide_wide [.p, .p, .p, .p, .p, .p, .p] [] [(0, (Pv sb)), (1, I6 2), (2, I6 n), (3, v), (8, .pointer none), (9, I6 0), (30, .bool false), (42, .agg #[(Pv sb), I6 0, I6 2, I6 n, I6 0, I6 0, I6 0, I6 0, .slice bs ks.length cap, I6 0, I6 0, I6 1, .bool false])] 12 2 hS .nil fun a hS => ?_
  refine eff_box wide_wide (r := 1) (cs := #[(Pv sb), I6 0, I6 2, I6 n, I6 0, I6 0, I6 0, I6 0, .slice bs ks.length cap, I6 0, I6 0, I6 1, .bool false]) (T := 106) (d := (some 43)) hS (by kernel_rfl) fun a w7 hw8 hS => ?_
  have hB11 : Blk w7 (wc.heap.size) 106 #[(Pv sb), I6 0, I6 2, I6 n, I6 0, I6 0, I6 0, I6 0, .slice bs ks.length cap, I6 0, I6 0, I6 1, .bool false] := by rw [hw8]; exact Blk.new _ _ _
  have hs12 : w.heap.size ≤ wc.heap.size := hEc0.size
  have hE13 : Ext [] w w7 := by rw [hw8]; exact hEc0.alloc _
  refine sg wide_wide [.p] [] [(0, (Pv sb)), (1, I6 2), (2, I6 n), (3, v), (8, .pointer none), (9, I6 0), (30, .bool false), (10, (Pv wc.heap.size))] 14 0 hS .nil fun a hS => ?_
  refine seg_end ?_
  refine hK4 _ _ ?_
  refine sq fun K14 hK14 => ?_
  refine sq fun K15 hK15 => ?_
  refine rgn 3 ?_
  refine sg wide_wide [.p, .run (I6 ↑ks.length), .p] [Ru Try.prog (vS (Builtin.len_ #[32] 3 #[v])) (I6 ↑ks.length) w7] [(0, (Pv sb)), (1, I6 2), (2, I6 n), (3, v), (8, .pointer none), (9, I6 0), (30, .bool false), (10, (Pv wc.heap.size)), (44, v), (45, I6 ↑ks.length), (46, I6 0)] 3 0 hS (.cons (run_len_own hv (by kernel_rfl)) .nil) fun a hS => ?_
  refine seg_end ?_
  refine hK15 _ _ ?_
  refine wpIn_block ?_
  have hvs1 := hvs.ext (by rw [hw8]; exact (Ext.refl _ _).alloc _ : Ext [] wc w7) (by simp)
  have hnbv : ∀ b ∈ ob (.slice bs ks.length cap), b ≠ wc.heap.size := fun b hb => Nat.ne_of_lt (hvs.lie b hb)
  have hnbn := hs12
  have hnb0 := hB11
  have hsz0 : wc.heap.size < w7.heap.size := hB11.lt
  have hE1 := hE13
  generalize hgnb : wc.heap.size = nb at hS hnbv hnbn hnb0 hsz0
  replace hvs1 : OwnV w7 47 1 (.slice bs ks.length cap) ks.length (ks.map fun q => q.2.ptr) ∧ ∀ b ∈ ob (.slice bs ks.length cap), b ≠ nb := ⟨hvs1, hnbv⟩
  refine loop_ghost (fun ((k, W, L, TT, fl) : Nat × Int × Int × Int × Bool) a' w' => St 118 [] [(0, (Pv sb)), (8, .pointer none), (9, I6 0), (10, (Pv nb)), (44, v), (45, I6 ↑ks.length), (46, I6 ↑k)] a' ∧ Blk w' nb 106 #[(Pv sb), I6 0, I6 2, I6 n, I6 0, I6 0, I6 0, I6 0, .slice bs ks.length cap, I6 W, I6 L, I6 TT, .bool fl] ∧ Sums false (ks.take k) W L TT fl ∧ k ≤ ks.length ∧ Ext [] w w' ∧ Ext [nb, sb] w7 w' ∧ ∀ q ∈ ks.take k, q.1 = sb) (fun ((k, W, L, TT, fl) : Nat × Int × Int × Int × Bool) => ks.length - k) (0, 0, 0, 1, false) ⟨hS.keepTo [0, 8, 9, 10, 44, 45, 46] (by kernel_rfl), hnb0, ⟨by simp [kt, sumT, cap5], by simp [kt, sumW, sumL], by simp [kt, anyF]⟩, Nat.zero_le _, hE1, Ext.refl _ _, by simp⟩ ?_
  rintro ⟨k, W, L, TT, fl⟩ a w1 ⟨hS, hnb, hsum, hkl, hEx, hEn, hsame⟩
  have hEn0 : Ext [nb, sb] w1 w1 := Ext.refl _ _
  have hsb := hB.ext hEx (by simp)
  have hallk : ∀ q ∈ ks.take k, q.2.Ok w q.1 := fun q hq => (hks q (List.mem_of_mem_take hq)).1
  have hbd := hsum.bd hallk
  refine sq fun K16 hK16 => ?_
  refine rgn 1 ?_
  refine sg wide_wide [.p] [] [(0, (Pv sb)), (8, .pointer none), (9, I6 0), (10, (Pv nb)), (44, v), (45, I6 ↑ks.length), (46, I6 ↑k), (47, .bool (decide ((↑k : Int) < ↑ks.length)))] 1 0 hS .nil fun a hS => ?_
  refine seg_end ?_
  refine hK16 _ _ ?_
  refine sq fun K17 hK17 => ?_
  refine cond_b hS rfl (fun hb18 => ?_) (fun hb18 => ?_)
  ·
   replace hb18 := of_decide_eq_true hb18
   have hk : k < ks.length := by omega
   obtain ⟨sk, tk, htk⟩ : ∃ sk tk, ks[k] = (sk, tk) := ⟨_, _, rfl⟩
   have hmem : (sk, tk) ∈ ks := htk ▸ List.getElem_mem hk
   obtain ⟨hok0, y, hyB0⟩ : tk.Ok w sk ∧ ∃ y, Blk w sk 102 #[I6 y] := hks _ hmem
   have hok := hok0.ext hEx _ (by simp)
   have hyB := hyB0.ext hEx (by simp)
   have hN : Blk w1 tk.b 106 #[(Pv sk), I6 tk.num, I6 tk.kd, I6 tk.nn, I6 tk.lk, I6 tk.ls, I6 tk.ll, I6 tk.lr, tk.ks, I6 tk.wd, I6 tk.lf, I6 tk.tt, .bool tk.fl] := hok.blk
   have htake : ks.take (k + 1) = ks.take k ++ [(sk, tk)] := by rw [List.take_succ_eq_append_getElem hk, htk]
   have hstep := hsum.step hallk hok0
   have hnt : tk.b ≠ nb := Nat.ne_of_lt (Nat.lt_of_lt_of_le hok0.blk.lt hnbn)
   have htp := Tr.Ok.tt_pos tk hok0
   have hmx := hok0.nums.max
   have hcell : w1.cell? ⟨bof v, 0 + k * 1, none⟩ = some tk.ptr := by
    rw [show 0 + k * 1 = k by omega]
    exact (hv.ext hEx (by simp)).cellAt k (by simp [hk, htk])
   refine wpIn_skip ?_
   refine hK17 _ _ ?_
   refine sq fun K19 hK19 => ?_
   refine wpIn_block ?_
   refine sq fun K20 hK20 => ?_
   refine rgn 3 ?_
   refine sg wide_wide [.run ((Po (bof v) (0 + k * 1))), .ld ((Pv tk.b)), .p] [Ru Try.prog (vS (Instr.indexAt 32 (v) (I6 ↑k))) ((Po (bof v) (0 + k * 1))) w1, w1.cell? ⟨bof v, 0 + k * 1, none⟩ = some ((Pv tk.b))] [(0, (Pv sb)), (8, .pointer none), (9, I6 0), (10, (Pv nb)), (44, v), (45, I6 ↑ks.length), (46, I6 ↑k), (12, (Pv tk.b))] 3 0 hS (.cons (ix_own (j := k) hv (by kernel_rfl) (by kernel_rfl) rfl hk) (.cons (hcell) .nil)) fun a hS => ?_
   refine seg_end ?_
   refine hK20 _ _ ?_
   refine sq fun K21 hK21 => ?_
   refine sq fun K22 hK22 => ?_
   by_cases hs : sb = sk
   ·
    subst hs
    refine rgn 6 ?_
    refine sg wide_wide [.p, .p, .p, .ld ((Pv sb)), .p, .run (.bool false)] [_, Ru Try.prog (vS (do eqGuard .neq 30 (.tmp 53) (.tmp 54) ((Pv sb)) ((Pv sb)); binOp .neq 30 ((Pv sb)) ((Pv sb)))) (.bool false) w1] [(0, (Pv sb)), (8, .pointer none), (9, I6 0), (10, (Pv nb)), (44, v), (45, I6 ↑ks.length), (46, I6 ↑k), (12, (Pv tk.b)), (55, .bool false)] 6 0 hS (.cons (hN.cell 0 rfl) (.cons (bin_ptr_neq (E := 102) (by kernel_rfl) ⟨0, by kernel_rfl⟩ hsb hsb (by simp)) .nil)) fun a hS => ?_
    refine seg_end ?_
    refine hK22 _ _ ?_
    refine cond_f hS rfl ?_
    refine wpIn_skip ?_
    refine hK21 _ _ ?_
    refine sq fun K23 hK23 => ?_
    refine region_fn2 wide_wide [.q .p, .q .p, .q .p, .q (.ld (I6 W)), .q .p, .q .p, .q .p, .q (.ld (I6 tk.wd)), .q .p, .q .p, .q .p, .e] [0, 0, 0, 0, 0, 0, 0, 0, 0, 0, 0, 0] [0, 0, 0, 0, 0, 0, 0, 0, 0, 0, 0, 0] [0, 1, 3, 7, 0, 16, 48, 112, 255, 511, 1023, 2047] [11] 1 ([(0, (Pv sb)), (8, .pointer none), (9, I6 0), (10, (Pv nb)), (44, v), (45, I6 ↑ks.length), (46, I6 ↑k), (12, (Pv tk.b)), (55, .bool false), (56, (Pv nb)), (57, (Pv nb)), (58, (Po nb 9)), (59, I6 W), (60, (Pv tk.b)), (61, (Pv tk.b)), (62, (Po tk.b 9)), (63, I6 tk.wd), (64, I6 (IntKind.i64.wrap (W + tk.wd))), (65, (Pv nb)), (66, (Po nb 9))]) [w1.drew, upd (w1.drew) (nb) 106 #[(Pv sb), I6 0, I6 2, I6 n, I6 0, I6 0, I6 0, I6 0, .slice bs ks.length cap, I6 (IntKind.i64.wrap (W + tk.wd)), I6 L, I6 TT, .bool fl]] w1.drew (fun w' => [(3, [w'.cell? ⟨nb, 9, none⟩ = some (I6 W)]), (7, [w'.cell? ⟨tk.b, 9, none⟩ = some (I6 tk.wd)])]) [0, 8, 9, 10, 44, 45, 46, 12, 55] [] hS (by kernel_rfl) (by kernel_rfl) (by kernel_rfl) (by kernel_rfl) (fun _ => by kernel_rfl) (by kernel_rfl) (by kernel_rfl) (by kernel_rfl) ?_ ?_ ?_
    ·intro e w' hw
     refine (.cons ?_ (.cons ?_ .nil))
     ·intro h1 h2
      obtain rfl : e = 0 := Nat.le_antisymm h2 h1
      obtain rfl : w' = w1.drew := hw.trans (by kernel_rfl)
      exact (.cons ((hnb.drew : Blk w1.drew nb 106 (#[(Pv sb), I6 0, I6 2, I6 n, I6 0, I6 0, I6 0, I6 0, .slice bs ks.length cap, I6 W, I6 L, I6 TT, .bool fl])).cell 9 rfl) .nil)
     ·intro h1 h2
      obtain rfl : e = 0 := Nat.le_antisymm h2 h1
      obtain rfl : w' = w1.drew := hw.trans (by kernel_rfl)
      exact (.cons ((hN.drew : Blk w1.drew tk.b 106 (#[(Pv sb), I6 tk.num, I6 tk.kd, I6 tk.nn, I6 tk.lk, I6 tk.ls, I6 tk.ll, I6 tk.lr, tk.ks, I6 tk.wd, I6 tk.lf, I6 tk.tt, .bool tk.fl])).cell 9 rfl) .nil)
    ·refine (.cons ?eq24_11 .nil)
     ·refine eff_at (w1.drew) (upd (w1.drew) (nb) 106 #[(Pv sb), I6 0, I6 2, I6 n, I6 0, I6 0, I6 0, I6 0, .slice bs ks.length cap, I6 (IntKind.i64.wrap (W + tk.wd)), I6 L, I6 TT, .bool fl]) (by kernel_rfl) (by kernel_rfl) ?_
      exact upon_store (b := nb) (off := 9) (vs := [I6 (IntKind.i64.wrap (W + tk.wd))]) (by kernel_rfl) (hnb.drew : Blk w1.drew nb 106 (#[(Pv sb), I6 0, I6 2, I6 n, I6 0, I6 0, I6 0, I6 0, .slice bs ks.length cap, I6 W, I6 L, I6 TT, .bool fl])) (by simp) ⟨by kernel_rfl, by kernel_rfl⟩
    rintro a w25 hS hw26
    replace hw26 : w25 = upd (w1.drew) (nb) 106 #[(Pv sb), I6 0, I6 2, I6 n, I6 0, I6 0, I6 0, I6 0, .slice bs ks.length cap, I6 (IntKind.i64.wrap (W + tk.wd)), I6 L, I6 TT, .bool fl] := hw26.trans (by kernel_rfl)
    have hB27 : Blk w25 nb 106 (#[(Pv sb), I6 0, I6 2, I6 n, I6 0, I6 0, I6 0, I6 0, .slice bs ks.length cap, I6 (IntKind.i64.wrap (W + tk.wd)), I6 L, I6 TT, .bool fl]) := by rw [hw26]; exact (hnb.drew).upd _ _
    have hB29 := Blk.at' hw26 ((hN.drew).updNe (Ne.symm hnt) _ _)
    have hE30 : Ext [] w w25 := by rw [hw26]; exact (hEx.drew).updIn (.inr hnbn) _ _
    have hX31 : Ext [nb] w1 w25 := by rw [hw26]; exact ((Ext.refl _ _).drew).updIn (.inl (by simp)) _ _
    have hG32 : Ext [nb, sb] w1 w25 := hEn0.trans hX31 (by simp)
    replace hS := hS.kp [(0, (Pv sb)), (8, .pointer none), (9, I6 0), (10, (Pv nb)), (44, v), (45, I6 ↑ks.length), (46, I6 ↑k), (12, (Pv tk.b)), (55, .bool false)]
    refine hK23 _ _ ?_
    refine sq fun K33 hK33 => ?_
    refine region_fn2 wide_wide [.q .p, .q .p, .q .p, .q (.ld (I6 L)), .q .p, .q .p, .q .p, .q (.ld (I6 tk.lf)), .q .p, .q .p, .q .p, .e] [0, 0, 0, 0, 0, 0, 0, 0, 0, 0, 0, 0] [0, 0, 0, 0, 0, 0, 0, 0, 0, 0, 0, 0] [0, 1, 3, 7, 0, 16, 48, 112, 255, 511, 1023, 2047] [11] 1 ([(0, (Pv sb)), (8, .pointer none), (9, I6 0), (10, (Pv nb)), (44, v), (45, I6 ↑ks.length), (46, I6 ↑k), (12, (Pv tk.b)), (55, .bool false), (67, (Pv nb)), (68, (Pv nb)), (69, (Po nb 10)), (70, I6 L), (71, (Pv tk.b)), (72, (Pv tk.b)), (73, (Po tk.b 10)), (74, I6 tk.lf), (75, I6 (IntKind.i64.wrap (L + tk.lf))), (76, (Pv nb)), (77, (Po nb 10))]) [w25.drew, upd (w25.drew) (nb) 106 #[(Pv sb), I6 0, I6 2, I6 n, I6 0, I6 0, I6 0, I6 0, .slice bs ks.length cap, I6 (IntKind.i64.wrap (W + tk.wd)), I6 (IntKind.i64.wrap (L + tk.lf)), I6 TT, .bool fl]] w25.drew (fun w' => [(3, [w'.cell? ⟨nb, 10, none⟩ = some (I6 L)]), (7, [w'.cell? ⟨tk.b, 10, none⟩ = some (I6 tk.lf)])]) [0, 8, 9, 10, 44, 45, 46, 12, 55] [] hS (by kernel_rfl) (by kernel_rfl) (by kernel_rfl) (by kernel_rfl) (fun _ => by kernel_rfl) (by kernel_rfl) (by kernel_rfl) (by kernel_rfl) ?_ ?_ ?_
    ·intro e w' hw
     refine (.cons ?_ (.cons ?_ .nil))
     ·intro h1 h2
      obtain rfl : e = 0 := Nat.le_antisymm h2 h1
      obtain rfl : w' = w25.drew := hw.trans (by kernel_rfl)
      exact (.cons ((hB27.drew : Blk w25.drew nb 106 (#[(Pv sb), I6 0, I6 2, I6 n, I6 0, I6 0, I6 0, I6 0, .slice bs ks.length cap, I6 (IntKind.i64.wrap (W + tk.wd)), I6 L, I6 TT, .bool fl])).cell 10 rfl) .nil)
     ·intro h1 h2
      obtain rfl : e = 0 := Nat.le_antisymm h2 h1
      obtain rfl : w' = w25.drew := hw.trans (by kernel_rfl)
      exact (.cons ((hB29.drew : Blk w25.drew tk.b 106 (#[(Pv sb), I6 tk.num, I6 tk.kd, I6 tk.nn, I6 tk.lk, I6 tk.ls, I6 tk.ll, I6 tk.lr, tk.ks, I6 tk.wd, I6 tk.lf, I6 tk.tt, .bool tk.fl])).cell 10 rfl) .nil)
    ·refine (.cons ?eq34_11 .nil)
     ·refine eff_at (w25.drew) (upd (w25.drew) (nb) 106 #[(Pv sb), I6 0, I6 2, I6 n, I6 0, I6 0, I6 0, I6 0, .slice bs ks.length cap, I6 (IntKind.i64.wrap (W + tk.wd)), I6 (IntKind.i64.wrap (L + tk.lf)), I6 TT, .bool fl]) (by kernel_rfl) (by kernel_rfl) ?_
      exact upon_store (b := nb) (off := 10) (vs := [I6 (IntKind.i64.wrap (L + tk.lf))]) (by kernel_rfl) (hB27.drew : Blk w25.drew nb 106 (#[(Pv sb), I6 0, I6 2, I6 n, I6 0, I6 0, I6 0, I6 0, .slice bs ks.length cap, I6 (IntKind.i64.wrap (W + tk.wd)), I6 L, I6 TT, .bool fl])) (by simp) ⟨by kernel_rfl, by kernel_rfl⟩
    rintro a w35 hS hw36
    replace hw36 : w35 = upd (w25.drew) (nb) 106 #[(Pv sb), I6 0, I6 2, I6 n, I6 0, I6 0, I6 0, I6 0, .slice bs ks.length cap, I6 (IntKind.i64.wrap (W + tk.wd)), I6 (IntKind.i64.wrap (L + tk.lf)), I6 TT, .bool fl] := hw36.trans (by kernel_rfl)
    have hB37 : Blk w35 nb 106 (#[(Pv sb), I6 0, I6 2, I6 n, I6 0, I6 0, I6 0, I6 0, .slice bs ks.length cap, I6 (IntKind.i64.wrap (W + tk.wd)), I6 (IntKind.i64.wrap (L + tk.lf)), I6 TT, .bool fl]) := by rw [hw36]; exact (hB27.drew).upd _ _
    have hB39 := Blk.at' hw36 ((hB29.drew).updNe (Ne.symm hnt) _ _)
    have hE40 : Ext [] w w35 := by rw [hw36]; exact (hE30.drew).updIn (.inr hnbn) _ _
    have hX41 : Ext [nb] w25 w35 := by rw [hw36]; exact ((Ext.refl _ _).drew).updIn (.inl (by simp)) _ _
    have hG42 : Ext [nb, sb] w1 w35 := hG32.trans hX41 (by simp)
    replace hS := hS.kp [(0, (Pv sb)), (8, .pointer none), (9, I6 0), (10, (Pv nb)), (44, v), (45, I6 ↑ks.length), (46, I6 ↑k), (12, (Pv tk.b)), (55, .bool false)]
    refine hK33 _ _ ?_
    refine sq fun K43 hK43 => ?_
    refine region_fn2 wide_wide [.q .p, .q .p, .q .p, .q .p, .q (.ld (I6 TT)), .q .p, .q .p, .q .p, .q (.ld (I6 tk.tt)), .q (.as (I6 (TT + tk.tt))), .q (.as (I6 (cap5 (TT + tk.tt)))), .q .p, .q .p, .e] [0, 0, 0, 0, 0, 0, 0, 0, 0, 0, 0, 0, 0, 0] [0, 0, 0, 0, 0, 0, 0, 0, 0, 0, 0, 0, 0, 0] [0, 0, 2, 6, 14, 0, 32, 96, 224, 510, 1022, 2047, 4095, 8191] [13] 1 ([(0, (Pv sb)), (8, .pointer none), (9, I6 0), (10, (Pv nb)), (44, v), (45, I6 ↑ks.length), (46, I6 ↑k), (12, (Pv tk.b)), (55, .bool false), (78, (Pv nb)), (79, (Pv nb)), (80, (Pv nb)), (81, (Po nb 11)), (82, I6 TT), (83, (Pv tk.b)), (84, (Pv tk.b)), (85, (Po tk.b 11)), (86, I6 tk.tt), (87, I6 (TT + tk.tt)), (88, I6 (cap5 (TT + tk.tt))), (89, (Pv nb)), (90, (Po nb 11))]) [w35.drew, upd (w35.drew) (nb) 106 #[(Pv sb), I6 0, I6 2, I6 n, I6 0, I6 0, I6 0, I6 0, .slice bs ks.length cap, I6 (IntKind.i64.wrap (W + tk.wd)), I6 (IntKind.i64.wrap (L + tk.lf)), I6 (cap5 (TT + tk.tt)), .bool fl]] w35.drew (fun w' => [(4, [w'.cell? ⟨nb, 11, none⟩ = some (I6 TT)]), (8, [w'.cell? ⟨tk.b, 11, none⟩ = some (I6 tk.tt)]), (9, [Value.int .i64 (IntKind.i64.wrap (TT + tk.tt)) = I6 (TT + tk.tt)]), (10, [Value.int .i64 (if (4194305 : Int) < TT + tk.tt then 4194305 else TT + tk.tt) = I6 (cap5 (TT + tk.tt))])]) [0, 8, 9, 10, 44, 45, 46, 12, 55] [] hS (by kernel_rfl) (by kernel_rfl) (by kernel_rfl) (by kernel_rfl) (fun _ => by kernel_rfl) (by kernel_rfl) (by kernel_rfl) (by kernel_rfl) ?_ ?_ ?_
    ·intro e w' hw
     refine (.cons ?_ (.cons ?_ (.cons ?_ (.cons ?_ .nil))))
     ·intro h1 h2
      obtain rfl : e = 0 := Nat.le_antisymm h2 h1
      obtain rfl : w' = w35.drew := hw.trans (by kernel_rfl)
      exact (.cons ((hB37.drew : Blk w35.drew nb 106 (#[(Pv sb), I6 0, I6 2, I6 n, I6 0, I6 0, I6 0, I6 0, .slice bs ks.length cap, I6 (IntKind.i64.wrap (W + tk.wd)), I6 (IntKind.i64.wrap (L + tk.lf)), I6 TT, .bool fl])).cell 11 rfl) .nil)
     ·intro h1 h2
      obtain rfl : e = 0 := Nat.le_antisymm h2 h1
      obtain rfl : w' = w35.drew := hw.trans (by kernel_rfl)
      exact (.cons ((hB39.drew : Blk w35.drew tk.b 106 (#[(Pv sb), I6 tk.num, I6 tk.kd, I6 tk.nn, I6 tk.lk, I6 tk.ls, I6 tk.ll, I6 tk.lr, tk.ks, I6 tk.wd, I6 tk.lf, I6 tk.tt, .bool tk.fl])).cell 11 rfl) .nil)
     ·exact fun _ _ => (.cons (as_i64 (by omega)) .nil)
     ·exact fun _ _ => (.cons (rfl) .nil)
    ·refine (.cons ?eq44_13 .nil)
     ·refine eff_at (w35.drew) (upd (w35.drew) (nb) 106 #[(Pv sb), I6 0, I6 2, I6 n, I6 0, I6 0, I6 0, I6 0, .slice bs ks.length cap, I6 (IntKind.i64.wrap (W + tk.wd)), I6 (IntKind.i64.wrap (L + tk.lf)), I6 (cap5 (TT + tk.tt)), .bool fl]) (by kernel_rfl) (by kernel_rfl) ?_
      exact upon_store (b := nb) (off := 11) (vs := [I6 (cap5 (TT + tk.tt))]) (by kernel_rfl) (hB37.drew : Blk w35.drew nb 106 (#[(Pv sb), I6 0, I6 2, I6 n, I6 0, I6 0, I6 0, I6 0, .slice bs ks.length cap, I6 (IntKind.i64.wrap (W + tk.wd)), I6 (IntKind.i64.wrap (L + tk.lf)), I6 TT, .bool fl])) (by simp) ⟨by kernel_rfl, by kernel_rfl⟩
    rintro a w45 hS hw46
    replace hw46 : w45 = upd (w35.drew) (nb) 106 #[(Pv sb), I6 0, I6 2, I6 n, I6 0, I6 0, I6 0, I6 0, .slice bs ks.length cap, I6 (IntKind.i64.wrap (W + tk.wd)), I6 (IntKind.i64.wrap (L + tk.lf)), I6 (cap5 (TT + tk.tt)), .bool fl] := hw46.trans (by kernel_rfl)
    have hB47 : Blk w45 nb 106 (#[(Pv sb), I6 0, I6 2, I6 n, I6 0, I6 0, I6 0, I6 0, .slice bs ks.length cap, I6 (IntKind.i64.wrap (W + tk.wd)), I6 (IntKind.i64.wrap (L + tk.lf)), I6 (cap5 (TT + tk.tt)), .bool fl]) := by rw [hw46]; exact (hB37.drew).upd _ _
    have hB49 := Blk.at' hw46 ((hB39.drew).updNe (Ne.symm hnt) _ _)
    have hE50 : Ext [] w w45 := by rw [hw46]; exact (hE40.drew).updIn (.inr hnbn) _ _
    have hX51 : Ext [nb] w35 w45 := by rw [hw46]; exact ((Ext.refl _ _).drew).updIn (.inl (by simp)) _ _
    have hG52 : Ext [nb, sb] w1 w45 := hG42.trans hX51 (by simp)
    replace hS := hS.kp [(0, (Pv sb)), (8, .pointer none), (9, I6 0), (10, (Pv nb)), (44, v), (45, I6 ↑ks.length), (46, I6 ↑k), (12, (Pv tk.b)), (55, .bool false)]
    refine hK43 _ _ ?_
    rcases (show fl = true ∨ fl = false by cases fl <;> simp) with hfl | hfl
    
    ·
     subst hfl
     refine rgn 14 ?_
     refine sg wide_wide [.p, .p, .p, .p, .ld (.bool true), .p, .no, .no, .no, .no, .p, .p, .p] [_] [(0, (Pv sb)), (8, .pointer none), (9, I6 0), (10, (Pv nb)), (44, v), (45, I6 ↑ks.length), (46, I6 ↑k), (12, (Pv tk.b)), (55, .bool false), (101, .bool true), (103, (Po nb 12))] 13 1 hS (.cons (hB47.cell 12 rfl) .nil) fun a hS => ?_
     refine eff_store wide_wide (r := 0) (b := nb) (off := 12) (vs := [.bool true]) hS (by kernel_rfl) hB47 (by simp) fun a w53 hw54 hS => ?_
     have hB55 : Blk w53 nb 106 (#[(Pv sb), I6 0, I6 2, I6 n, I6 0, I6 0, I6 0, I6 0, .slice bs ks.length cap, I6 (IntKind.i64.wrap (W + tk.wd)), I6 (IntKind.i64.wrap (L + tk.lf)), I6 (cap5 (TT + tk.tt)), .bool true]) := by rw [hw54]; exact hB47.upd _ _
     have hX58 : Ext [nb] w45 w53 := by rw [hw54]; exact (Ext.refl _ _).updIn (.inl (by simp)) _ _
     have hG59 : Ext [nb, sb] w1 w53 := hG52.trans hX58 (by simp)
     have hE60 : Ext [] w w53 := by rw [hw54]; exact hE50.updIn (.inr hnbn) _ _
     refine seg_end ?_
     refine inBlock_normal ?_
     refine hK19 _ _ ?_
     refine rgn 2 ?_
     refine sg wide_wide [.as (I6 (↑k + 1)), .p] [Value.int .i64 (IntKind.i64.wrap (↑k + 1)) = I6 (↑k + 1)] [(0, (Pv sb)), (8, .pointer none), (9, I6 0), (10, (Pv nb)), (44, v), (45, I6 ↑ks.length), (46, I6 (↑k + 1)), (12, (Pv tk.b)), (55, .bool false)] 2 0 hS (.cons (as_i64 (by omega)) .nil) fun a hS => ?_
     refine seg_end ?_
     refine ⟨(k + 1, IntKind.i64.wrap (W + tk.wd), IntKind.i64.wrap (L + tk.lf), cap5 (TT + tk.tt), true), ⟨hS.keepTo [0, 8, 9, 10, 44, 45, 46] (by kernel_rfl), hB55, by rw [htake]; simpa using hstep, hk, hE60, hEn.trans hG59 (fun b hb => .inl hb), ?_⟩, by simp; omega⟩
     rw [htake]
     intro q hq
     rcases List.mem_append.1 hq with hq | hq
     ·exact hsame q hq
     ·simp at hq; rw [hq]
    ·
     subst hfl
     refine rgn 14 ?_
     refine sg wide_wide [.p, .p, .p, .p, .ld (.bool false), .p, .p, .p, .p, .ld (.bool tk.fl), .p, .p, .p] [_, _] [(0, (Pv sb)), (8, .pointer none), (9, I6 0), (10, (Pv nb)), (44, v), (45, I6 ↑ks.length), (46, I6 ↑k), (12, (Pv tk.b)), (55, .bool false), (101, .bool tk.fl), (103, (Po nb 12))] 13 1 hS (.cons (hB47.cell 12 rfl) (.cons (hB49.cell 12 rfl) .nil)) fun a hS => ?_
     refine eff_store wide_wide (r := 0) (b := nb) (off := 12) (vs := [.bool tk.fl]) hS (by kernel_rfl) hB47 (by simp) fun a w61 hw62 hS => ?_
     have hB63 : Blk w61 nb 106 (#[(Pv sb), I6 0, I6 2, I6 n, I6 0, I6 0, I6 0, I6 0, .slice bs ks.length cap, I6 (IntKind.i64.wrap (W + tk.wd)), I6 (IntKind.i64.wrap (L + tk.lf)), I6 (cap5 (TT + tk.tt)), .bool tk.fl]) := by rw [hw62]; exact hB47.upd _ _
     have hX66 : Ext [nb] w45 w61 := by rw [hw62]; exact (Ext.refl _ _).updIn (.inl (by simp)) _ _
     have hG67 : Ext [nb, sb] w1 w61 := hG52.trans hX66 (by simp)
     have hE68 : Ext [] w w61 := by rw [hw62]; exact hE50.updIn (.inr hnbn) _ _
     refine seg_end ?_
     refine inBlock_normal ?_
     refine hK19 _ _ ?_
     refine rgn 2 ?_
     refine sg wide_wide [.as (I6 (↑k + 1)), .p] [Value.int .i64 (IntKind.i64.wrap (↑k + 1)) = I6 (↑k + 1)] [(0, (Pv sb)), (8, .pointer none), (9, I6 0), (10, (Pv nb)), (44, v), (45, I6 ↑ks.length), (46, I6 (↑k + 1)), (12, (Pv tk.b)), (55, .bool false)] 2 0 hS (.cons (as_i64 (by omega)) .nil) fun a hS => ?_
     refine seg_end ?_
     refine ⟨(k + 1, IntKind.i64.wrap (W + tk.wd), IntKind.i64.wrap (L + tk.lf), cap5 (TT + tk.tt), tk.fl), ⟨hS.keepTo [0, 8, 9, 10, 44, 45, 46] (by kernel_rfl), hB63, by rw [htake]; simpa using hstep, hk, hE68, hEn.trans hG67 (fun b hb => .inl hb), ?_⟩, by simp; omega⟩
     rw [htake]
     intro q hq
     rcases List.mem_append.1 hq with hq | hq
     ·exact hsame q hq
     ·simp at hq; rw [hq]
   ·
    have hs2 : sk ≠ sb := fun h => hs h.symm
    refine rgn 6 ?_
    refine sg wide_wide [.p, .p, .p, .ld ((Pv sk)), .p, .run (.bool true)] [_, Ru Try.prog (vS (do eqGuard .neq 30 (.tmp 53) (.tmp 54) ((Pv sk)) ((Pv sb)); binOp .neq 30 ((Pv sk)) ((Pv sb)))) (.bool true) w1] [(0, (Pv sb)), (8, .pointer none), (9, I6 0), (10, (Pv nb)), (44, v), (45, I6 ↑ks.length), (46, I6 ↑k), (12, (Pv tk.b)), (55, .bool true)] 6 0 hS (.cons (hN.cell 0 rfl) (.cons (bin_ptr_neq (E := 102) (by kernel_rfl) ⟨0, by kernel_rfl⟩ hyB hsb (by simp [hs2])) .nil)) fun a hS => ?_
    refine seg_end ?_
    refine hK22 _ _ ?_
    refine cond_t hS rfl ?_
    refine sq fun K69 hK69 => ?_
    refine rgn 2 ?_
    refine sg wide_wide [.p, .p] [] [(0, (Pv sb)), (8, .pointer none), (9, I6 100), (10, (Pv nb)), (44, v), (45, I6 ↑ks.length), (46, I6 ↑k), (12, (Pv tk.b)), (55, .bool true)] 2 0 hS .nil fun a hS => ?_
    refine seg_end ?_
    refine hK69 _ _ ?_
    refine wpIn_ret ?_
    refine then_ret ?_
    refine inBlock_ret ?_
    refine then_ret ?_
    refine then_ret ?_
    refine inBlock_ret ?_
    refine then_ret ?_
    refine ret2 hS Try.results20 rfl rfl ?_
    exact .inl ⟨⟨_, hmem, hs2⟩, rfl, hEx⟩
  ·
   replace hb18 := of_decide_eq_false hb18
   obtain rfl : k = ks.length := by omega
   rw [List.take_length] at hsum hsame
   refine wpIn_exit ?_
   refine then_exit ?_
   refine then_exit ?_
   refine inBlock_hit ?_
   refine hK14 _ _ ?_
   refine sq fun K70 hK70 => ?_
   refine sq fun K71 hK71 => ?_
   refine rgn 5 ?_
   refine sg wide_wide [.p, .p, .p, .ld (I6 TT), .p] [_] [(0, (Pv sb)), (8, .pointer none), (9, I6 0), (10, (Pv nb)), (44, v), (45, I6 ↑ks.length), (109, .bool (decide ((TT : Int) > 4194304)))] 5 0 hS (.cons (hnb.cell 11 rfl) .nil) fun a hS => ?_
   refine seg_end ?_
   refine hK71 _ _ ?_
   refine cond_b hS rfl (fun hb72 => ?_) (fun hb72 => ?_)
   ·
    replace hb72 := of_decide_eq_true hb72
    have htt2 : TT = cap5 (1 + sumT (kt ks)) := hsum.tt
    have hover : 4194304 < 1 + sumT (kt ks) := by
     unfold cap5 at htt2
     split at htt2 <;> omega
    refine sq fun K73 hK73 => ?_
    refine rgn 2 ?_
    refine sg wide_wide [.p, .p] [] [(0, (Pv sb)), (8, .pointer none), (9, I6 6), (10, (Pv nb)), (44, v), (45, I6 ↑ks.length)] 2 0 hS .nil fun a hS => ?_
    refine seg_end ?_
    refine hK73 _ _ ?_
    refine wpIn_ret ?_
    refine then_ret ?_
    refine ret2 hS Try.results20 rfl rfl ?_
    exact .inr (.inl ⟨hsame, hover, rfl, hEx⟩)
   ·
    replace hb72 := of_decide_eq_false hb72
    have htt2 : TT = cap5 (1 + sumT (kt ks)) := hsum.tt
    have hroom : 1 + sumT (kt ks) ≤ 4194304 := by
     unfold cap5 at htt2
     split at htt2 <;> omega
    have htt3 : TT = 1 + sumT (kt ks) := by
     rw [htt2]; unfold cap5; rw [if_neg (by omega)]
    have hEs : Ext [sb] w w1 := hEx.of0
    refine wpIn_skip ?_
    refine hK70 _ _ ?_
    refine sq fun K74 hK74 => ?_
    refine rgn 8 ?_
    refine sg wide_wide [.p, .p, .p, .p] [] [(0, (Pv sb)), (8, .pointer none), (9, I6 0), (10, (Pv nb)), (44, v), (45, I6 ↑ks.length), (110, (Pv nb)), (113, (Pv sb))] 4 4 hS .nil fun a hS => ?_
    refine eff_call wide_wide (r := 3) (f := 52) (vs := [(Pv sb), I6 1]) (cap := #[]) (d := (some 114)) hS (by kernel_rfl) Try.call52 #[(Pv sb), I6 1] (by kernel_rfl) (Add_any hsb hx) ?_
    rintro _ wA ⟨rfl, hw75⟩
    refine ⟨_, rfl, fun a hS => ?_⟩
    have hB76 := Blk.at' hw75 (hnb.updNe (Blk.ne_type hsb hnb (by decide)) _ _)
    have hB77 : Blk wA sb 102 (#[I6 (x + 1)]) := by rw [hw75]; exact hsb.upd _ _
    have hX78 : Ext [sb] w1 wA := by rw [hw75]; exact (Ext.refl _ _).updIn (.inl (by simp)) _ _
    have hG79 : Ext [nb, sb] w1 wA := hEn0.trans hX78 (by simp)
    have hE80 : Ext [sb] w wA := by rw [hw75]; exact hEs.updIn (.inl (by simp)) _ _
    refine sg wide_wide [.p, .p] [] [(0, (Pv sb)), (8, .pointer none), (9, I6 0), (10, (Pv nb)), (44, v), (45, I6 ↑ks.length), (114, I6 (x + 1)), (116, (Po nb 1))] 7 1 hS .nil fun a hS => ?_
    refine eff_store wide_wide (r := 0) (b := nb) (off := 1) (vs := [I6 (x + 1)]) hS (by kernel_rfl) hB76 (by simp) fun a w81 hw82 hS => ?_
    have hB83 : Blk w81 nb 106 (#[(Pv sb), I6 (x + 1), I6 2, I6 n, I6 0, I6 0, I6 0, I6 0, .slice bs ks.length cap, I6 W, I6 L, I6 TT, .bool fl]) := by rw [hw82]; exact hB76.upd _ _
    have hB84 := Blk.at' hw82 (hB77.updNe (Ne.symm (Blk.ne_type hsb hnb (by decide))) _ _)
    have hX85 : Ext [nb] wA w81 := by rw [hw82]; exact (Ext.refl _ _).updIn (.inl (by simp)) _ _
    have hG86 : Ext [nb, sb] w1 w81 := hG79.trans hX85 (by simp)
    have hE87 : Ext [sb] w w81 := by rw [hw82]; exact hE80.updIn (.inr hnbn) _ _
    refine seg_end ?_
    refine hK74 _ _ ?_
    refine sq fun K88 hK88 => ?_
    refine rgn 3 ?_
    refine sg wide_wide [.p, .p, .p] [] [(0, (Pv sb)), (8, (Pv nb)), (9, I6 0), (10, (Pv nb)), (44, v), (45, I6 ↑ks.length)] 3 0 hS .nil fun a hS => ?_
    refine seg_end ?_
    refine hK88 _ _ ?_
    refine wpIn_ret ?_
    refine ret2 hS Try.results20 rfl rfl ?_
    exact by
     have hnm : ∀ b ∈ ob (.slice bs ks.length cap), b ∉ [nb, sb] := fun b hb hm => by
      have hm : b = nb ∨ b = sb := by simpa using hm
      rcases hm with rfl | rfl
      ·exact hvs1.2 _ hb rfl
      ·have := hnvs _ hb; have := hB.lt; omega
     have hE9 : Ext [nb, sb] w1 w81 := hG86
     have hvs9 : OwnV w81 47 1 (.slice bs ks.length cap) ks.length (ks.map fun q => q.2.ptr) := (hvs1.1.ext hEn hnm).ext hE9 hnm
     obtain ⟨hW, hL⟩ := hsum.wl hroom
     have hok9 : ∀ q ∈ ks, q.2.Ok w81 sb := fun q hq => by
      have h1 := (hks q hq).1
      rw [hsame q hq] at h1
      exact h1.ext hE87 q.2 (fun b hb => by simp at hb; subst hb; exact h1.not_foot hB (by decide) (by decide))
     refine .inr (.inr ⟨hsame, hroom, nb, _, rfl, hnbn, hnvs, (Tr.ok_iff _).2 ⟨⟨?_, ?_, ?_, ?_, hroom, by simp [Tr.kd, Tr.nn]⟩, ?_⟩, hB84, hE87⟩)
     ·have h9 := hB83
      rw [hW, hL, htt3, hsum.fl] at h9
      exact h9
     ·simpa [Tr.ks, Tr.kids, kt, Function.comp_def] using hvs9
     ·intro h; simp [Tr.kd] at h
     ·intro _; simp [Tr.kd, Tr.nn, Tr.lk, Tr.ls, Tr.ll, Tr.lr, Tr.wd, Tr.lf, Tr.tt, Tr.fl, Tr.kids]; omega
     ·exact oks_iff.2 fun t ht => by
       simp only [Tr.kids, kt, List.mem_map] at ht
       obtain ⟨q, hq, rfl⟩ := ht
       exact hok9 q hq
 ·
  refine rgn 18 ?_
  refine sg wide_wide [.p, .p, .p, .p, .p, .p, .p, .p, .as (.bool false), .p, .p, .p, .as (.bool true), .p, .p, .p, .p, .p] [Value.bool (decide ((n : Int) < 0)) = .bool false, Value.bool (((n : Int) != 0)) = .bool true] [(0, (Pv sb)), (1, I6 2), (2, I6 n), (3, v), (8, .pointer none), (9, I6 0), (30, .bool false)] 18 0 hS (.cons (as_f (by omega)) (.cons (as_ne_t (by simpa using hn0)) .nil)) fun a hS => ?_
  refine seg_end ?_
  refine hK3 _ _ ?_
  refine cond_f hS rfl ?_
  refine wpIn_skip ?_
  refine hK2 _ _ ?_
  refine sq fun K89 hK89 => ?_
  refine rgn 14 ?_
  refine sg wide_wide [.p, .p, .p, .p] [] [(0, (Pv sb)), (1, I6 2), (2, I6 n), (3, v), (8, .pointer none), (9, I6 0), (30, .bool false), (31, (Pv sb)), (32, I6 2), (33, I6 n), (34, v)] 4 10 hS .nil fun a hS => ?_
  have hv90 := hv.ext hE0 (by simp)
  refine eff_call wide_wide (r := 9) (f := 54) (vs := [v]) (cap := #[]) (d := (some 35)) hS (by kernel_rfl) Try.call54 #[v] (by kernel_rfl) (Clone_ks hv90 (by omega)) ?_
  rintro _ wc ⟨bs, cap, rfl, hvs, hEc, hnvs⟩
  refine ⟨_, rfl, fun a hS => ?_⟩
  have hEc0 : Ext [] w wc := hE0.trans0 hEc
  replace hnvs : ∀ b ∈ ob (.slice bs ks.length cap), w.heap.size ≤ b := fun b hb => Nat.le_trans hE0.size (hnvs b hb)
  refine sg wide_wide [.p, .p, .p, .p, .p, .p, .p] [] [(0, (Pv sb)), (1, I6 2), (2, I6 n), (3, v), (8, .pointer none), (9, I6 0), (30, .bool false), (42, .agg #[(Pv sb), I6 0, I6 2, I6 n, I6 0, I6 0, I6 0, I6 0, .slice bs ks.length cap, I6 0, I6 0, I6 1, .bool false])] 12 2 hS .nil fun a hS => ?_
  refine eff_box wide_wide (r := 1) (cs := #[(Pv sb), I6 0, I6 2, I6 n, I6 0, I6 0, I6 0, I6 0, .slice bs ks.length cap, I6 0, I6 0, I6 1, .bool false]) (T := 106) (d := (some 43)) hS (by kernel_rfl) fun a w92 hw93 hS => ?_
  have hB96 : Blk w92 (wc.heap.size) 106 #[(Pv sb), I6 0, I6 2, I6 n, I6 0, I6 0, I6 0, I6 0, .slice bs ks.length cap, I6 0, I6 0, I6 1, .bool false] := by rw [hw93]; exact Blk.new _ _ _
  have hs97 : w.heap.size ≤ wc.heap.size := hEc0.size
  have hE98 : Ext [] w w92 := by rw [hw93]; exact hEc0.alloc _
  refine sg wide_wide [.p] [] [(0, (Pv sb)), (1, I6 2), (2, I6 n), (3, v), (8, .pointer none), (9, I6 0), (30, .bool false), (10, (Pv wc.heap.size))] 14 0 hS .nil fun a hS => ?_
  refine seg_end ?_
  refine hK89 _ _ ?_
  refine sq fun K99 hK99 => ?_
  refine sq fun K100 hK100 => ?_
  refine rgn 3 ?_
  refine sg wide_wide [.p, .run (I6 ↑ks.length), .p] [Ru Try.prog (vS (Builtin.len_ #[32] 3 #[v])) (I6 ↑ks.length) w92] [(0, (Pv sb)), (1, I6 2), (2, I6 n), (3, v), (8, .pointer none), (9, I6 0), (30, .bool false), (10, (Pv wc.heap.size)), (44, v), (45, I6 ↑ks.length), (46, I6 0)] 3 0 hS (.cons (run_len_own hv (by kernel_rfl)) .nil) fun a hS => ?_
  refine seg_end ?_
  refine hK100 _ _ ?_
  refine wpIn_block ?_
  have hvs1 := hvs.ext (by rw [hw93]; exact (Ext.refl _ _).alloc _ : Ext [] wc w92) (by simp)
  have hnbv : ∀ b ∈ ob (.slice bs ks.length cap), b ≠ wc.heap.size := fun b hb => Nat.ne_of_lt (hvs.lie b hb)
  have hnbn := hs97
  have hnb0 := hB96
  have hsz0 : wc.heap.size < w92.heap.size := hB96.lt
  have hE1 := hE98
  generalize hgnb : wc.heap.size = nb at hS hnbv hnbn hnb0 hsz0
  replace hvs1 : OwnV w92 47 1 (.slice bs ks.length cap) ks.length (ks.map fun q => q.2.ptr) ∧ ∀ b ∈ ob (.slice bs ks.length cap), b ≠ nb := ⟨hvs1, hnbv⟩
  refine loop_ghost (fun ((k, W, L, TT, fl) : Nat × Int × Int × Int × Bool) a' w' => St 118 [] [(0, (Pv sb)), (8, .pointer none), (9, I6 0), (10, (Pv nb)), (44, v), (45, I6 ↑ks.length), (46, I6 ↑k)] a' ∧ Blk w' nb 106 #[(Pv sb), I6 0, I6 2, I6 n, I6 0, I6 0, I6 0, I6 0, .slice bs ks.length cap, I6 W, I6 L, I6 TT, .bool fl] ∧ Sums false (ks.take k) W L TT fl ∧ k ≤ ks.length ∧ Ext [] w w' ∧ Ext [nb, sb] w92 w' ∧ ∀ q ∈ ks.take k, q.1 = sb) (fun ((k, W, L, TT, fl) : Nat × Int × Int × Int × Bool) => ks.length - k) (0, 0, 0, 1, false) ⟨hS.keepTo [0, 8, 9, 10, 44, 45, 46] (by kernel_rfl), hnb0, ⟨by simp [kt, sumT, cap5], by simp [kt, sumW, sumL], by simp [kt, anyF]⟩, Nat.zero_le _, hE1, Ext.refl _ _, by simp⟩ ?_
  rintro ⟨k, W, L, TT, fl⟩ a w1 ⟨hS, hnb, hsum, hkl, hEx, hEn, hsame⟩
  have hEn0 : Ext [nb, sb] w1 w1 := Ext.refl _ _
  have hsb := hB.ext hEx (by simp)
  have hallk : ∀ q ∈ ks.take k, q.2.Ok w q.1 := fun q hq => (hks q (List.mem_of_mem_take hq)).1
  have hbd := hsum.bd hallk
  refine sq fun K101 hK101 => ?_
  refine rgn 1 ?_
  refine sg wide_wide [.p] [] [(0, (Pv sb)), (8, .pointer none), (9, I6 0), (10, (Pv nb)), (44, v), (45, I6 ↑ks.length), (46, I6 ↑k), (47, .bool (decide ((↑k : Int) < ↑ks.length)))] 1 0 hS .nil fun a hS => ?_
  refine seg_end ?_
  refine hK101 _ _ ?_
  refine sq fun K102 hK102 => ?_
  refine cond_b hS rfl (fun hb103 => ?_) (fun hb103 => ?_)
  ·
   replace hb103 := of_decide_eq_true hb103
   have hk : k < ks.length := by omega
   obtain ⟨sk, tk, htk⟩ : ∃ sk tk, ks[k] = (sk, tk) := ⟨_, _, rfl⟩
   have hmem : (sk, tk) ∈ ks := htk ▸ List.getElem_mem hk
   obtain ⟨hok0, y, hyB0⟩ : tk.Ok w sk ∧ ∃ y, Blk w sk 102 #[I6 y] := hks _ hmem
   have hok := hok0.ext hEx _ (by simp)
   have hyB := hyB0.ext hEx (by simp)
   have hN : Blk w1 tk.b 106 #[(Pv sk), I6 tk.num, I6 tk.kd, I6 tk.nn, I6 tk.lk, I6 tk.ls, I6 tk.ll, I6 tk.lr, tk.ks, I6 tk.wd, I6 tk.lf, I6 tk.tt, .bool tk.fl] := hok.blk
   have htake : ks.take (k + 1) = ks.take k ++ [(sk, tk)] := by rw [List.take_succ_eq_append_getElem hk, htk]
   have hstep := hsum.step hallk hok0
   have hnt : tk.b ≠ nb := Nat.ne_of_lt (Nat.lt_of_lt_of_le hok0.blk.lt hnbn)
   have htp := Tr.Ok.tt_pos tk hok0
   have hmx := hok0.nums.max
   have hcell : w1.cell? ⟨bof v, 0 + k * 1, none⟩ = some tk.ptr := by
    rw [show 0 + k * 1 = k by omega]
    exact (hv.ext hEx (by simp)).cellAt k (by simp [hk, htk])
   refine wpIn_skip ?_
   refine hK102 _ _ ?_
   refine sq fun K104 hK104 => ?_
   refine wpIn_block ?_
   refine sq fun K105 hK105 => ?_
   refine rgn 3 ?_
   refine sg wide_wide [.run ((Po (bof v) (0 + k * 1))), .ld ((Pv tk.b)), .p] [Ru Try.prog (vS (Instr.indexAt 32 (v) (I6 ↑k))) ((Po (bof v) (0 + k * 1))) w1, w1.cell? ⟨bof v, 0 + k * 1, none⟩ = some ((Pv tk.b))] [(0, (Pv sb)), (8, .pointer none), (9, I6 0), (10, (Pv nb)), (44, v), (45, I6 ↑ks.length), (46, I6 ↑k), (12, (Pv tk.b))] 3 0 hS (.cons (ix_own (j := k) hv (by kernel_rfl) (by kernel_rfl) rfl hk) (.cons (hcell) .nil)) fun a hS => ?_
   refine seg_end ?_
   refine hK105 _ _ ?_
   refine sq fun K106 hK106 => ?_
   refine sq fun K107 hK107 => ?_
   by_cases hs : sb = sk
   ·
    subst hs
    refine rgn 6 ?_
    refine sg wide_wide [.p, .p, .p, .ld ((Pv sb)), .p, .run (.bool false)] [_, Ru Try.prog (vS (do eqGuard .neq 30 (.tmp 53) (.tmp 54) ((Pv sb)) ((Pv sb)); binOp .neq 30 ((Pv sb)) ((Pv sb)))) (.bool false) w1] [(0, (Pv sb)), (8, .pointer none), (9, I6 0), (10, (Pv nb)), (44, v), (45, I6 ↑ks.length), (46, I6 ↑k), (12, (Pv tk.b)), (55, .bool false)] 6 0 hS (.cons (hN.cell 0 rfl) (.cons (bin_ptr_neq (E := 102) (by kernel_rfl) ⟨0, by kernel_rfl⟩ hsb hsb (by simp)) .nil)) fun a hS => ?_
    refine seg_end ?_
    refine hK107 _ _ ?_
    refine cond_f hS rfl ?_
    refine wpIn_skip ?_
    refine hK106 _ _ ?_
    refine sq fun K108 hK108 => ?_
    refine region_fn2 wide_wide [.q .p, .q .p, .q .p, .q (.ld (I6 W)), .q .p, .q .p, .q .p, .q (.ld (I6 tk.wd)), .q .p, .q .p, .q .p, .e] [0, 0, 0, 0, 0, 0, 0, 0, 0, 0, 0, 0] [0, 0, 0, 0, 0, 0, 0, 0, 0, 0, 0, 0] [0, 1, 3, 7, 0, 16, 48, 112, 255, 511, 1023, 2047] [11] 1 ([(0, (Pv sb)), (8, .pointer none), (9, I6 0), (10, (Pv nb)), (44, v), (45, I6 ↑ks.length), (46, I6 ↑k), (12, (Pv tk.b)), (55, .bool false), (56, (Pv nb)), (57, (Pv nb)), (58, (Po nb 9)), (59, I6 W), (60, (Pv tk.b)), (61, (Pv tk.b)), (62, (Po tk.b 9)), (63, I6 tk.wd), (64, I6 (IntKind.i64.wrap (W + tk.wd))), (65, (Pv nb)), (66, (Po nb 9))]) [w1.drew, upd (w1.drew) (nb) 106 #[(Pv sb), I6 0, I6 2, I6 n, I6 0, I6 0, I6 0, I6 0, .slice bs ks.length cap, I6 (IntKind.i64.wrap (W + tk.wd)), I6 L, I6 TT, .bool fl]] w1.drew (fun w' => [(3, [w'.cell? ⟨nb, 9, none⟩ = some (I6 W)]), (7, [w'.cell? ⟨tk.b, 9, none⟩ = some (I6 tk.wd)])]) [0, 8, 9, 10, 44, 45, 46, 12, 55] [] hS (by kernel_rfl) (by kernel_rfl) (by kernel_rfl) (by kernel_rfl) (fun _ => by kernel_rfl) (by kernel_rfl) (by kernel_rfl) (by kernel_rfl) ?_ ?_ ?_
    ·intro e w' hw
     refine (.cons ?_ (.cons ?_ .nil))
     ·intro h1 h2
      obtain rfl : e = 0 := Nat.le_antisymm h2 h1
      obtain rfl : w' = w1.drew := hw.trans (by kernel_rfl)
      exact (.cons ((hnb.drew : Blk w1.drew nb 106 (#[(Pv sb), I6 0, I6 2, I6 n, I6 0, I6 0, I6 0, I6 0, .slice bs ks.length cap, I6 W, I6 L, I6 TT, .bool fl])).cell 9 rfl) .nil)
     ·intro h1 h2
      obtain rfl : e = 0 := Nat.le_antisymm h2 h1
      obtain rfl : w' = w1.drew := hw.trans (by kernel_rfl)
      exact (.cons ((hN.drew : Blk w1.drew tk.b 106 (#[(Pv sb), I6 tk.num, I6 tk.kd, I6 tk.nn, I6 tk.lk, I6 tk.ls, I6 tk.ll, I6 tk.lr, tk.ks, I6 tk.wd, I6 tk.lf, I6 tk.tt, .bool tk.fl])).cell 9 rfl) .nil)
    ·refine (.cons ?eq109_11 .nil)
     ·refine eff_at (w1.drew) (upd (w1.drew) (nb) 106 #[(Pv sb), I6 0, I6 2, I6 n, I6 0, I6 0, I6 0, I6 0, .slice bs ks.length cap, I6 (IntKind.i64.wrap (W + tk.wd)), I6 L, I6 TT, .bool fl]) (by kernel_rfl) (by kernel_rfl) ?_
      exact upon_store (b := nb) (off := 9) (vs := [I6 (IntKind.i64.wrap (W + tk.wd))]) (by kernel_rfl) (hnb.drew : Blk w1.drew nb 106 (#[(Pv sb), I6 0, I6 2, I6 n, I6 0, I6 0, I6 0, I6 0, .slice bs ks.length cap, I6 W, I6 L, I6 TT, .bool fl])) (by simp) ⟨by kernel_rfl, by kernel_rfl⟩
    rintro a w110 hS hw111
    replace hw111 : w110 = upd (w1.drew) (nb) 106 #[(Pv sb), I6 0, I6 2, I6 n, I6 0, I6 0, I6 0, I6 0, .slice bs ks.length cap, I6 (IntKind.i64.wrap (W + tk.wd)), I6 L, I6 TT, .bool fl] := hw111.trans (by kernel_rfl)
    have hB112 : Blk w110 nb 106 (#[(Pv sb), I6 0, I6 2, I6 n, I6 0, I6 0, I6 0, I6 0, .slice bs ks.length cap, I6 (IntKind.i64.wrap (W + tk.wd)), I6 L, I6 TT, .bool fl]) := by rw [hw111]; exact (hnb.drew).upd _ _
    have hB114 := Blk.at' hw111 ((hN.drew).updNe (Ne.symm hnt) _ _)
    have hE115 : Ext [] w w110 := by rw [hw111]; exact (hEx.drew).updIn (.inr hnbn) _ _
    have hX116 : Ext [nb] w1 w110 := by rw [hw111]; exact ((Ext.refl _ _).drew).updIn (.inl (by simp)) _ _
    have hG117 : Ext [nb, sb] w1 w110 := hEn0.trans hX116 (by simp)
    replace hS := hS.kp [(0, (Pv sb)), (8, .pointer none), (9, I6 0), (10, (Pv nb)), (44, v), (45, I6 ↑ks.length), (46, I6 ↑k), (12, (Pv tk.b)), (55, .bool false)]
    refine hK108 _ _ ?_
    refine sq fun K118 hK118 => ?_
    refine region_fn2 wide_wide [.q .p, .q .p, .q .p, .q (.ld (I6 L)), .q .p, .q .p, .q .p, .q (.ld (I6 tk.lf)), .q .p, .q .p, .q .p, .e] [0, 0, 0, 0, 0, 0, 0, 0, 0, 0, 0, 0] [0, 0, 0, 0, 0, 0, 0, 0, 0, 0, 0, 0] [0, 1, 3, 7, 0, 16, 48, 112, 255, 511, 1023, 2047] [11] 1 ([(0, (Pv sb)), (8, .pointer none), (9, I6 0), (10, (Pv nb)), (44, v), (45, I6 ↑ks.length), (46, I6 ↑k), (12, (Pv tk.b)), (55, .bool false), (67, (Pv nb)), (68, (Pv nb)), (69, (Po nb 10)), (70, I6 L), (71, (Pv tk.b)), (72, (Pv tk.b)), (73, (Po tk.b 10)), (74, I6 tk.lf), (75, I6 (IntKind.i64.wrap (L + tk.lf))), (76, (Pv nb)), (77, (Po nb 10))]) [w110.drew, upd (w110.drew) (nb) 106 #[(Pv sb), I6 0, I6 2, I6 n, I6 0, I6 0, I6 0, I6 0, .slice bs ks.length cap, I6 (IntKind.i64.wrap (W + tk.wd)), I6 (IntKind.i64.wrap (L + tk.lf)), I6 TT, .bool fl]] w110.drew (fun w' => [(3, [w'.cell? ⟨nb, 10, none⟩ = some (I6 L)]), (7, [w'.cell? ⟨tk.b, 10, none⟩ = some (I6 tk.lf)])]) [0, 8, 9, 10, 44, 45, 46, 12, 55] [] hS (by kernel_rfl) (by kernel_rfl) (by kernel_rfl) (by kernel_rfl) (fun _ => by kernel_rfl) (by kernel_rfl) (by kernel_rfl) (by kernel_rfl) ?_ ?_ ?_
    ·intro e w' hw
     refine (.cons ?_ (.cons ?_ .nil))
     ·intro h1 h2
      obtain rfl : e = 0 := Nat.le_antisymm h2 h1
      obtain rfl : w' = w110.drew := hw.trans (by kernel_rfl)
      exact (.cons ((hB112.drew : Blk w110.drew nb 106 (#[(Pv sb), I6 0, I6 2, I6 n, I6 0, I6 0, I6 0, I6 0, .slice bs ks.length cap, I6 (IntKind.i64.wrap (W + tk.wd)), I6 L, I6 TT, .bool fl])).cell 10 rfl) .nil)
     ·intro h1 h2
      obtain rfl : e = 0 := Nat.le_antisymm h2 h1
      obtain rfl : w' = w110.drew := hw.trans (by kernel_rfl)
      exact (.cons ((hB114.drew : Blk w110.drew tk.b 106 (#[(Pv sb), I6 tk.num, I6 tk.kd, I6 tk.nn, I6 tk.lk, I6 tk.ls, I6 tk.ll, I6 tk.lr, tk.ks, I6 tk.wd, I6 tk.lf, I6 tk.tt, .bool tk.fl])).cell 10 rfl) .nil)
    ·refine (.cons ?eq119_11 .nil)
     ·refine eff_at (w110.drew) (upd (w110.drew) (nb) 106 #[(Pv sb), I6 0, I6 2, I6 n, I6 0, I6 0, I6 0, I6 0, .slice bs ks.length cap, I6 (IntKind.i64.wrap (W + tk.wd)), I6 (IntKind.i64.wrap (L + tk.lf)), I6 TT, .bool fl]) (by kernel_rfl) (by kernel_rfl) ?_
      exact upon_store (b := nb) (off := 10) (vs := [I6 (IntKind.i64.wrap (L + tk.lf))]) (by kernel_rfl) (hB112.drew : Blk w110.drew nb 106 (#[(Pv sb), I6 0, I6 2, I6 n, I6 0, I6 0, I6 0, I6 0, .slice bs ks.length cap, I6 (IntKind.i64.wrap (W + tk.wd)), I6 L, I6 TT, .bool fl])) (by simp) ⟨by kernel_rfl, by kernel_rfl⟩
    rintro a w120 hS hw121
    replace hw121 : w120 = upd (w110.drew) (nb) 106 #[(Pv sb), I6 0, I6 2, I6 n, I6 0, I6 0, I6 0, I6 0, .slice bs ks.length cap, I6 (IntKind.i64.wrap (W + tk.wd)), I6 (IntKind.i64.wrap (L + tk.lf)), I6 TT, .bool fl] := hw121.trans (by kernel_rfl)
    have hB122 : Blk w120 nb 106 (#[(Pv sb), I6 0, I6 2, I6 n, I6 0, I6 0, I6 0, I6 0, .slice bs ks.length cap, I6 (IntKind.i64.wrap (W + tk.wd)), I6 (IntKind.i64.wrap (L + tk.lf)), I6 TT, .bool fl]) := by rw [hw121]; exact (hB112.drew).upd _ _
    have hB124 := Blk.at' hw121 ((hB114.drew).updNe (Ne.symm hnt) _ _)
    have hE125 : Ext [] w w120 := by rw [hw121]; exact (hE115.drew).updIn (.inr hnbn) _ _
    have hX126 : Ext [nb] w110 w120 := by rw [hw121]; exact ((Ext.refl _ _).drew).updIn (.inl (by simp)) _ _
    have hG127 : Ext [nb, sb] w1 w120 := hG117.trans hX126 (by simp)
    replace hS := hS.kp [(0, (Pv sb)), (8, .pointer none), (9, I6 0), (10, (Pv nb)), (44, v), (45, I6 ↑ks.length), (46, I6 ↑k), (12, (Pv tk.b)), (55, .bool false)]
    refine hK118 _ _ ?_
    refine sq fun K128 hK128 => ?_
    refine region_fn2 wide_wide [.q .p, .q .p, .q .p, .q .p, .q (.ld (I6 TT)), .q .p, .q .p, .q .p, .q (.ld (I6 tk.tt)), .q (.as (I6 (TT + tk.tt))), .q (.as (I6 (cap5 (TT + tk.tt)))), .q .p, .q .p, .e] [0, 0, 0, 0, 0, 0, 0, 0, 0, 0, 0, 0, 0, 0] [0, 0, 0, 0, 0, 0, 0, 0, 0, 0, 0, 0, 0, 0] [0, 0, 2, 6, 14, 0, 32, 96, 224, 510, 1022, 2047, 4095, 8191] [13] 1 ([(0, (Pv sb)), (8, .pointer none), (9, I6 0), (10, (Pv nb)), (44, v), (45, I6 ↑ks.length), (46, I6 ↑k), (12, (Pv tk.b)), (55, .bool false), (78, (Pv nb)), (79, (Pv nb)), (80, (Pv nb)), (81, (Po nb 11)), (82, I6 TT), (83, (Pv tk.b)), (84, (Pv tk.b)), (85, (Po tk.b 11)), (86, I6 tk.tt), (87, I6 (TT + tk.tt)), (88, I6 (cap5 (TT + tk.tt))), (89, (Pv nb)), (90, (Po nb 11))]) [w120.drew, upd (w120.drew) (nb) 106 #[(Pv sb), I6 0, I6 2, I6 n, I6 0, I6 0, I6 0, I6 0, .slice bs ks.length cap, I6 (IntKind.i64.wrap (W + tk.wd)), I6 (IntKind.i64.wrap (L + tk.lf)), I6 (cap5 (TT + tk.tt)), .bool fl]] w120.drew (fun w' => [(4, [w'.cell? ⟨nb, 11, none⟩ = some (I6 TT)]), (8, [w'.cell? ⟨tk.b, 11, none⟩ = some (I6 tk.tt)]), (9, [Value.int .i64 (IntKind.i64.wrap (TT + tk.tt)) = I6 (TT + tk.tt)]), (10, [Value.int .i64 (if (4194305 : Int) < TT + tk.tt then 4194305 else TT + tk.tt) = I6 (cap5 (TT + tk.tt))])]) [0, 8, 9, 10, 44, 45, 46, 12, 55] [] hS (by kernel_rfl) (by kernel_rfl) (by kernel_rfl) (by kernel_rfl) (fun _ => by kernel_rfl) (by kernel_rfl) (by kernel_rfl) (by kernel_rfl) ?_ ?_ ?_
    ·intro e w' hw
     refine (.cons ?_ (.cons ?_ (.cons ?_ (.cons ?_ .nil))))
     ·intro h1 h2
      obtain rfl : e = 0 := Nat.le_antisymm h2 h1
      obtain rfl : w' = w120.drew := hw.trans (by kernel_rfl)
      exact (.cons ((hB122.drew : Blk w120.drew nb 106 (#[(Pv sb), I6 0, I6 2, I6 n, I6 0, I6 0, I6 0, I6 0, .slice bs ks.length cap, I6 (IntKind.i64.wrap (W + tk.wd)), I6 (IntKind.i64.wrap (L + tk.lf)), I6 TT, .bool fl])).cell 11 rfl) .nil)
     ·intro h1 h2
      obtain rfl : e = 0 := Nat.le_antisymm h2 h1
      obtain rfl : w' = w120.drew := hw.trans (by kernel_rfl)
      exact (.cons ((hB124.drew : Blk w120.drew tk.b 106 (#[(Pv sb), I6 tk.num, I6 tk.kd, I6 tk.nn, I6 tk.lk, I6 tk.ls, I6 tk.ll, I6 tk.lr, tk.ks, I6 tk.wd, I6 tk.lf, I6 tk.tt, .bool tk.fl])).cell 11 rfl) .nil)
     ·exact fun _ _ => (.cons (as_i64 (by omega)) .nil)
     ·exact fun _ _ => (.cons (rfl) .nil)
    ·refine (.cons ?eq129_13 .nil)
     ·refine eff_at (w120.drew) (upd (w120.drew) (nb) 106 #[(Pv sb), I6 0, I6 2, I6 n, I6 0, I6 0, I6 0, I6 0, .slice bs ks.length cap, I6 (IntKind.i64.wrap (W + tk.wd)), I6 (IntKind.i64.wrap (L + tk.lf)), I6 (cap5 (TT + tk.tt)), .bool fl]) (by kernel_rfl) (by kernel_rfl) ?_
      exact upon_store (b := nb) (off := 11) (vs := [I6 (cap5 (TT + tk.tt))]) (by kernel_rfl) (hB122.drew : Blk w120.drew nb 106 (#[(Pv sb), I6 0, I6 2, I6 n, I6 0, I6 0, I6 0, I6 0, .slice bs ks.length cap, I6 (IntKind.i64.wrap (W + tk.wd)), I6 (IntKind.i64.wrap (L + tk.lf)), I6 TT, .bool fl])) (by simp) ⟨by kernel_rfl, by kernel_rfl⟩
    rintro a w130 hS hw131
    replace hw131 : w130 = upd (w120.drew) (nb) 106 #[(Pv sb), I6 0, I6 2, I6 n, I6 0, I6 0, I6 0, I6 0, .slice bs ks.length cap, I6 (IntKind.i64.wrap (W + tk.wd)), I6 (IntKind.i64.wrap (L + tk.lf)), I6 (cap5 (TT + tk.tt)), .bool fl] := hw131.trans (by kernel_rfl)
    have hB132 : Blk w130 nb 106 (#[(Pv sb), I6 0, I6 2, I6 n, I6 0, I6 0, I6 0, I6 0, .slice bs ks.length cap, I6 (IntKind.i64.wrap (W + tk.wd)), I6 (IntKind.i64.wrap (L + tk.lf)), I6 (cap5 (TT + tk.tt)), .bool fl]) := by rw [hw131]; exact (hB122.drew).upd _ _
    have hB134 := Blk.at' hw131 ((hB124.drew).updNe (Ne.symm hnt) _ _)
    have hE135 : Ext [] w w130 := by rw [hw131]; exact (hE125.drew).updIn (.inr hnbn) _ _
    have hX136 : Ext [nb] w120 w130 := by rw [hw131]; exact ((Ext.refl _ _).drew).updIn (.inl (by simp)) _ _
    have hG137 : Ext [nb, sb] w1 w130 := hG127.trans hX136 (by simp)
    replace hS := hS.kp [(0, (Pv sb)), (8, .pointer none), (9, I6 0), (10, (Pv nb)), (44, v), (45, I6 ↑ks.length), (46, I6 ↑k), (12, (Pv tk.b)), (55, .bool false)]
    refine hK128 _ _ ?_
    rcases (show fl = true ∨ fl = false by cases fl <;> simp) with hfl | hfl
    
    ·
     subst hfl
     refine rgn 14 ?_
     refine sg wide_wide [.p, .p, .p, .p, .ld (.bool true), .p, .no, .no, .no, .no, .p, .p, .p] [_] [(0, (Pv sb)), (8, .pointer none), (9, I6 0), (10, (Pv nb)), (44, v), (45, I6 ↑ks.length), (46, I6 ↑k), (12, (Pv tk.b)), (55, .bool false), (101, .bool true), (103, (Po nb 12))] 13 1 hS (.cons (hB132.cell 12 rfl) .nil) fun a hS => ?_
     refine eff_store wide_wide (r := 0) (b := nb) (off := 12) (vs := [.bool true]) hS (by kernel_rfl) hB132 (by simp) fun a w138 hw139 hS => ?_
     have hB140 : Blk w138 nb 106 (#[(Pv sb), I6 0, I6 2, I6 n, I6 0, I6 0, I6 0, I6 0, .slice bs ks.length cap, I6 (IntKind.i64.wrap (W + tk.wd)), I6 (IntKind.i64.wrap (L + tk.lf)), I6 (cap5 (TT + tk.tt)), .bool true]) := by rw [hw139]; exact hB132.upd _ _
     have hX143 : Ext [nb] w130 w138 := by rw [hw139]; exact (Ext.refl _ _).updIn (.inl (by simp)) _ _
     have hG144 : Ext [nb, sb] w1 w138 := hG137.trans hX143 (by simp)
     have hE145 : Ext [] w w138 := by rw [hw139]; exact hE135.updIn (.inr hnbn) _ _
     refine seg_end ?_
     refine inBlock_normal ?_
     refine hK104 _ _ ?_
     refine rgn 2 ?_
     refine sg wide_wide [.as (I6 (↑k + 1)), .p] [Value.int .i64 (IntKind.i64.wrap (↑k + 1)) = I6 (↑k + 1)] [(0, (Pv sb)), (8, .pointer none), (9, I6 0), (10, (Pv nb)), (44, v), (45, I6 ↑ks.length), (46, I6 (↑k + 1)), (12, (Pv tk.b)), (55, .bool false)] 2 0 hS (.cons (as_i64 (by omega)) .nil) fun a hS => ?_
     refine seg_end ?_
     refine ⟨(k + 1, IntKind.i64.wrap (W + tk.wd), IntKind.i64.wrap (L + tk.lf), cap5 (TT + tk.tt), true), ⟨hS.keepTo [0, 8, 9, 10, 44, 45, 46] (by kernel_rfl), hB140, by rw [htake]; simpa using hstep, hk, hE145, hEn.trans hG144 (fun b hb => .inl hb), ?_⟩, by simp; omega⟩
     rw [htake]
     intro q hq
     rcases List.mem_append.1 hq with hq | hq
     ·exact hsame q hq
     ·simp at hq; rw [hq]
    ·
     subst hfl
     refine rgn 14 ?_
     refine sg wide_wide [.p, .p, .p, .p, .ld (.bool false), .p, .p, .p, .p, .ld (.bool tk.fl), .p, .p, .p] [_, _] [(0, (Pv sb)), (8, .pointer none), (9, I6 0), (10, (Pv nb)), (44, v), (45, I6 ↑ks.length), (46, I6 ↑k), (12, (Pv tk.b)), (55, .bool false), (101, .bool tk.fl), (103, (Po nb 12))] 13 1 hS (.cons (hB132.cell 12 rfl) (.cons (hB134.cell 12 rfl) .nil)) fun a hS => ?_
     refine eff_store wide_wide (r := 0) (b := nb) (off := 12) (vs := [.bool tk.fl]) hS (by kernel_rfl) hB132 (by simp) fun a w146 hw147 hS => ?_
     have hB148 : Blk w146 nb 106 (#[(Pv sb), I6 0, I6 2, I6 n, I6 0, I6 0, I6 0, I6 0, .slice bs ks.length cap, I6 (IntKind.i64.wrap (W + tk.wd)), I6 (IntKind.i64.wrap (L + tk.lf)), I6 (cap5 (TT + tk.tt)), .bool tk.fl]) := by rw [hw147]; exact hB132.upd _ _
     have hX151 : Ext [nb] w130 w146 := by rw [hw147]; exact (Ext.refl _ _).updIn (.inl (by simp)) _ _
     have hG152 : Ext [nb, sb] w1 w146 := hG137.trans hX151 (by simp)
     have hE153 : Ext [] w w146 := by rw [hw147]; exact hE135.updIn (.inr hnbn) _ _
     refine seg_end ?_
     refine inBlock_normal ?_
     refine hK104 _ _ ?_
     refine rgn 2 ?_
     refine sg wide_wide [.as (I6 (↑k + 1)), .p] [Value.int .i64 (IntKind.i64.wrap (↑k + 1)) = I6 (↑k + 1)] [(0, (Pv sb)), (8, .pointer none), (9, I6 0), (10, (Pv nb)), (44, v), (45, I6 ↑ks.length), (46, I6 (↑k + 1)), (12, (Pv tk.b)), (55, .bool false)] 2 0 hS (.cons (as_i64 (by omega)) .nil) fun a hS => ?_
     refine seg_end ?_
     refine ⟨(k + 1, IntKind.i64.wrap (W + tk.wd), IntKind.i64.wrap (L + tk.lf), cap5 (TT + tk.tt), tk.fl), ⟨hS.keepTo [0, 8, 9, 10, 44, 45, 46] (by kernel_rfl), hB148, by rw [htake]; simpa using hstep, hk, hE153, hEn.trans hG152 (fun b hb => .inl hb), ?_⟩, by simp; omega⟩
     rw [htake]
     intro q hq
     rcases List.mem_append.1 hq with hq | hq
     ·exact hsame q hq
     ·simp at hq; rw [hq]
   ·
    have hs2 : sk ≠ sb := fun h => hs h.symm
    refine rgn 6 ?_
    refine sg wide_wide [.p, .p, .p, .ld ((Pv sk)), .p, .run (.bool true)] [_, Ru Try.prog (vS (do eqGuard .neq 30 (.tmp 53) (.tmp 54) ((Pv sk)) ((Pv sb)); binOp .neq 30 ((Pv sk)) ((Pv sb)))) (.bool true) w1] [(0, (Pv sb)), (8, .pointer none), (9, I6 0), (10, (Pv nb)), (44, v), (45, I6 ↑ks.length), (46, I6 ↑k), (12, (Pv tk.b)), (55, .bool true)] 6 0 hS (.cons (hN.cell 0 rfl) (.cons (bin_ptr_neq (E := 102) (by kernel_rfl) ⟨0, by kernel_rfl⟩ hyB hsb (by simp [hs2])) .nil)) fun a hS => ?_
    refine seg_end ?_
    refine hK107 _ _ ?_
    refine cond_t hS rfl ?_
    refine sq fun K154 hK154 => ?_
    refine rgn 2 ?_
    refine sg wide_wide [.p, .p] [] [(0, (Pv sb)), (8, .pointer none), (9, I6 100), (10, (Pv nb)), (44, v), (45, I6 ↑ks.length), (46, I6 ↑k), (12, (Pv tk.b)), (55, .bool true)] 2 0 hS .nil fun a hS => ?_
    refine seg_end ?_
    refine hK154 _ _ ?_
    refine wpIn_ret ?_
    refine then_ret ?_
    refine inBlock_ret ?_
    refine then_ret ?_
    refine then_ret ?_
    refine inBlock_ret ?_
    refine then_ret ?_
    refine ret2 hS Try.results20 rfl rfl ?_
    exact .inl ⟨⟨_, hmem, hs2⟩, rfl, hEx⟩
  ·
   replace hb103 := of_decide_eq_false hb103
   obtain rfl : k = ks.length := by omega
   rw [List.take_length] at hsum hsame
   refine wpIn_exit ?_
   refine then_exit ?_
   refine then_exit ?_
   refine inBlock_hit ?_
   refine hK99 _ _ ?_
   refine sq fun K155 hK155 => ?_
   refine sq fun K156 hK156 => ?_
   refine rgn 5 ?_
   refine sg wide_wide [.p, .p, .p, .ld (I6 TT), .p] [_] [(0, (Pv sb)), (8, .pointer none), (9, I6 0), (10, (Pv nb)), (44, v), (45, I6 ↑ks.length), (109, .bool (decide ((TT : Int) > 4194304)))] 5 0 hS (.cons (hnb.cell 11 rfl) .nil) fun a hS => ?_
   refine seg_end ?_
   refine hK156 _ _ ?_
   refine cond_b hS rfl (fun hb157 => ?_) (fun hb157 => ?_)
   ·
    replace hb157 := of_decide_eq_true hb157
    have htt2 : TT = cap5 (1 + sumT (kt ks)) := hsum.tt
    have hover : 4194304 < 1 + sumT (kt ks) := by
     unfold cap5 at htt2
     split at htt2 <;> omega
    refine sq fun K158 hK158 => ?_
    refine rgn 2 ?_
    refine sg wide_wide [.p, .p] [] [(0, (Pv sb)), (8, .pointer none), (9, I6 6), (10, (Pv nb)), (44, v), (45, I6 ↑ks.length)] 2 0 hS .nil fun a hS => ?_
    refine seg_end ?_
    refine hK158 _ _ ?_
    refine wpIn_ret ?_
    refine then_ret ?_
    refine ret2 hS Try.results20 rfl rfl ?_
    exact .inr (.inl ⟨hsame, hover, rfl, hEx⟩)
   ·
    replace hb157 := of_decide_eq_false hb157
    have htt2 : TT = cap5 (1 + sumT (kt ks)) := hsum.tt
    have hroom : 1 + sumT (kt ks) ≤ 4194304 := by
     unfold cap5 at htt2
     split at htt2 <;> omega
    have htt3 : TT = 1 + sumT (kt ks) := by
     rw [htt2]; unfold cap5; rw [if_neg (by omega)]
    have hEs : Ext [sb] w w1 := hEx.of0
    refine wpIn_skip ?_
    refine hK155 _ _ ?_
    refine sq fun K159 hK159 => ?_
    refine rgn 8 ?_
    refine sg wide_wide [.p, .p, .p, .p] [] [(0, (Pv sb)), (8, .pointer none), (9, I6 0), (10, (Pv nb)), (44, v), (45, I6 ↑ks.length), (110, (Pv nb)), (113, (Pv sb))] 4 4 hS .nil fun a hS => ?_
    refine eff_call wide_wide (r := 3) (f := 52) (vs := [(Pv sb), I6 1]) (cap := #[]) (d := (some 114)) hS (by kernel_rfl) Try.call52 #[(Pv sb), I6 1] (by kernel_rfl) (Add_any hsb hx) ?_
    rintro _ wA ⟨rfl, hw160⟩
    refine ⟨_, rfl, fun a hS => ?_⟩
    have hB161 := Blk.at' hw160 (hnb.updNe (Blk.ne_type hsb hnb (by decide)) _ _)
    have hB162 : Blk wA sb 102 (#[I6 (x + 1)]) := by rw [hw160]; exact hsb.upd _ _
    have hX163 : Ext [sb] w1 wA := by rw [hw160]; exact (Ext.refl _ _).updIn (.inl (by simp)) _ _
    have hG164 : Ext [nb, sb] w1 wA := hEn0.trans hX163 (by simp)
    have hE165 : Ext [sb] w wA := by rw [hw160]; exact hEs.updIn (.inl (by simp)) _ _
    refine sg wide_wide [.p, .p] [] [(0, (Pv sb)), (8, .pointer none), (9, I6 0), (10, (Pv nb)), (44, v), (45, I6 ↑ks.length), (114, I6 (x + 1)), (116, (Po nb 1))] 7 1 hS .nil fun a hS => ?_
    refine eff_store wide_wide (r := 0) (b := nb) (off := 1) (vs := [I6 (x + 1)]) hS (by kernel_rfl) hB161 (by simp) fun a w166 hw167 hS => ?_
    have hB168 : Blk w166 nb 106 (#[(Pv sb), I6 (x + 1), I6 2, I6 n, I6 0, I6 0, I6 0, I6 0, .slice bs ks.length cap, I6 W, I6 L, I6 TT, .bool fl]) := by rw [hw167]; exact hB161.upd _ _
    have hB169 := Blk.at' hw167 (hB162.updNe (Ne.symm (Blk.ne_type hsb hnb (by decide))) _ _)
    have hX170 : Ext [nb] wA w166 := by rw [hw167]; exact (Ext.refl _ _).updIn (.inl (by simp)) _ _
    have hG171 : Ext [nb, sb] w1 w166 := hG164.trans hX170 (by simp)
    have hE172 : Ext [sb] w w166 := by rw [hw167]; exact hE165.updIn (.inr hnbn) _ _
    refine seg_end ?_
    refine hK159 _ _ ?_
    refine sq fun K173 hK173 => ?_
    refine rgn 3 ?_
    refine sg wide_wide [.p, .p, .p] [] [(0, (Pv sb)), (8, (Pv nb)), (9, I6 0), (10, (Pv nb)), (44, v), (45, I6 ↑ks.length)] 3 0 hS .nil fun a hS => ?_
    refine seg_end ?_
    refine hK173 _ _ ?_
    refine wpIn_ret ?_
    refine ret2 hS Try.results20 rfl rfl ?_
    exact by
     have hnm : ∀ b ∈ ob (.slice bs ks.length cap), b ∉ [nb, sb] := fun b hb hm => by
      have hm : b = nb ∨ b = sb := by simpa using hm
      rcases hm with rfl | rfl
      ·exact hvs1.2 _ hb rfl
      ·have := hnvs _ hb; have := hB.lt; omega
     have hE9 : Ext [nb, sb] w1 w166 := hG171
     have hvs9 : OwnV w166 47 1 (.slice bs ks.length cap) ks.length (ks.map fun q => q.2.ptr) := (hvs1.1.ext hEn hnm).ext hE9 hnm
     obtain ⟨hW, hL⟩ := hsum.wl hroom
     have hok9 : ∀ q ∈ ks, q.2.Ok w166 sb := fun q hq => by
      have h1 := (hks q hq).1
      rw [hsame q hq] at h1
      exact h1.ext hE172 q.2 (fun b hb => by simp at hb; subst hb; exact h1.not_foot hB (by decide) (by decide))
     refine .inr (.inr ⟨hsame, hroom, nb, _, rfl, hnbn, hnvs, (Tr.ok_iff _).2 ⟨⟨?_, ?_, ?_, ?_, hroom, by simp [Tr.kd, Tr.nn]⟩, ?_⟩, hB169, hE172⟩)
     ·have h9 := hB168
      rw [hW, hL, htt3, hsum.fl] at h9
      exact h9
     ·simpa [Tr.ks, Tr.kids, kt, Function.comp_def] using hvs9
     ·intro h; simp [Tr.kd] at h
     ·intro _; simp [Tr.kd, Tr.nn, Tr.lk, Tr.ls, Tr.ll, Tr.lr, Tr.wd, Tr.lf, Tr.tt, Tr.fl, Tr.kids]; omega
     ·exact oks_iff.2 fun t ht => by
       simp only [Tr.kids, kt, List.mem_map] at ht
       obtain ⟨q, hq, rfl⟩ := ht
       exact hok9 q hq

set_option maxHeartbeats 1000000 in
theorem Make_3 {sb : Nat} {x : Int} {v : Value} {ks : List (Nat × Tr)} {w : World} (hB : Blk w sb 102 #[I6 x]) (hx : 0 ≤ x ∧ x < 4611686018427387904) (hv : OwnV w 47 1 v ks.length (ks.map fun q => q.2.ptr)) (hks : ∀ q ∈ ks, q.2.Ok w q.1 ∧ ∃ y, Blk w q.1 102 #[I6 y]) (hlen : ks.length ≤ 17592186044416) :
  Calls Try.prog 20 #[(Pv sb), I6 3, I6 0, v] w fun e w' => MakeOut w sb x 3 0 ks e w' := by
 refine calls_body 118 [(0, (Pv sb)), (1, I6 3), (2, I6 0), (3, v)] Try.func20 rfl (by kernel_rfl) (by kernel_rfl) (by kernel_rfl) fun a hS => ?_
 have hE0 : Ext [] w w := Ext.refl _ _
 refine sq fun K1 hK1 => ?_
 refine rgn 2 ?_
 refine sg wide_wide [.p, .p] [] [(0, (Pv sb)), (1, I6 3), (2, I6 0), (3, v), (8, .pointer none), (9, I6 0)] 2 0 hS .nil fun a hS => ?_
 refine seg_end ?_
 refine hK1 _ _ ?_
 refine sq fun K2 hK2 => ?_
 refine sq fun K3 hK3 => ?_
 refine rgn 18 ?_
 refine sg wide_wide [.p, .p, .p, .p, .p, .p, .p, .p, .p, .p, .p, .p, .p, .p, .no, .no, .p, .p] [] [(0, (Pv sb)), (1, I6 3), (2, I6 0), (3, v), (8, .pointer none), (9, I6 0), (30, .bool false)] 18 0 hS .nil fun a hS => ?_
 refine seg_end ?_
 refine hK3 _ _ ?_
 refine cond_f hS rfl ?_
 refine wpIn_skip ?_
 refine hK2 _ _ ?_
 refine sq fun K4 hK4 => ?_
 refine rgn 14 ?_
 refine sg wide_wide [.p, .p, .p, .p] [] [(0, (Pv sb)), (1, I6 3), (2, I6 0), (3, v), (8, .pointer none), (9, I6 0), (30, .bool false), (31, (Pv sb)), (32, I6 3), (33, I6 0), (34, v)] 4 10 hS .nil fun a hS => ?_
 have hv5 := hv.ext hE0 (by simp)
 refine eff_call wide_wide (r := 9) (f := 54) (vs := [v]) (cap := #[]) (d := (some 35)) hS (by kernel_rfl) Try.call54 #[v] (by kernel_rfl) (Clone_ks hv5 (by omega)) ?_
 rintro _ wc ⟨bs, cap, rfl, hvs, hEc, hnvs⟩
 refine ⟨_, rfl, fun a hS => ?_⟩
 have hEc0 : Ext [] w wc := hE0.trans0 hEc
 replace hnvs : ∀ b ∈ ob (.slice bs ks.length cap), w.heap.size ≤ b := fun b hb => Nat.le_trans hE0.size (hnvs b hb)
 refine sg wide_wide [.p, .p, .p, .no, .no, .p, .p] [] [(0, (Pv sb)), (1, I6 3), (2, I6 0), (3, v), (8, .pointer none), (9, I6 0), (30, .bool false), (42, .agg #[(Pv sb), I6 0, I6 3, I6 0, I6 0, I6 0, I6 0, I6 0, .slice bs ks.length cap, I6 0, I6 0, I6 1, .bool true])] 12 2 hS .nil fun a hS => ?_
 refine eff_box wide_wide (r := 1) (cs := #[(Pv sb), I6 0, I6 3, I6 0, I6 0, I6 0, I6 0, I6 0, .slice bs ks.length cap, I6 0, I6 0, I6 1, .bool true]) (T := 106) (d := (some 43)) hS (by kernel_rfl) fun a w7 hw8 hS => ?_
 have hB11 : Blk w7 (wc.heap.size) 106 #[(Pv sb), I6 0, I6 3, I6 0, I6 0, I6 0, I6 0, I6 0, .slice bs ks.length cap, I6 0, I6 0, I6 1, .bool true] := by rw [hw8]; exact Blk.new _ _ _
 have hs12 : w.heap.size ≤ wc.heap.size := hEc0.size
 have hE13 : Ext [] w w7 := by rw [hw8]; exact hEc0.alloc _
 refine sg wide_wide [.p] [] [(0, (Pv sb)), (1, I6 3), (2, I6 0), (3, v), (8, .pointer none), (9, I6 0), (30, .bool false), (10, (Pv wc.heap.size))] 14 0 hS .nil fun a hS => ?_
 refine seg_end ?_
 refine hK4 _ _ ?_
 refine sq fun K14 hK14 => ?_
 refine sq fun K15 hK15 => ?_
 refine rgn 3 ?_
 refine sg wide_wide [.p, .run (I6 ↑ks.length), .p] [Ru Try.prog (vS (Builtin.len_ #[32] 3 #[v])) (I6 ↑ks.length) w7] [(0, (Pv sb)), (1, I6 3), (2, I6 0), (3, v), (8, .pointer none), (9, I6 0), (30, .bool false), (10, (Pv wc.heap.size)), (44, v), (45, I6 ↑ks.length), (46, I6 0)] 3 0 hS (.cons (run_len_own hv (by kernel_rfl)) .nil) fun a hS => ?_
 refine seg_end ?_
 refine hK15 _ _ ?_
 refine wpIn_block ?_
 have hvs1 := hvs.ext (by rw [hw8]; exact (Ext.refl _ _).alloc _ : Ext [] wc w7) (by simp)
 have hnbv : ∀ b ∈ ob (.slice bs ks.length cap), b ≠ wc.heap.size := fun b hb => Nat.ne_of_lt (hvs.lie b hb)
 have hnbn := hs12
 have hnb0 := hB11
 have hsz0 : wc.heap.size < w7.heap.size := hB11.lt
 have hE1 := hE13
 generalize hgnb : wc.heap.size = nb at hS hnbv hnbn hnb0 hsz0
 replace hvs1 : OwnV w7 47 1 (.slice bs ks.length cap) ks.length (ks.map fun q => q.2.ptr) ∧ ∀ b ∈ ob (.slice bs ks.length cap), b ≠ nb := ⟨hvs1, hnbv⟩
 refine loop_ghost (fun ((k, W, L, TT, fl) : Nat × Int × Int × Int × Bool) a' w' => St 118 [] [(0, (Pv sb)), (8, .pointer none), (9, I6 0), (10, (Pv nb)), (44, v), (45, I6 ↑ks.length), (46, I6 ↑k)] a' ∧ Blk w' nb 106 #[(Pv sb), I6 0, I6 3, I6 0, I6 0, I6 0, I6 0, I6 0, .slice bs ks.length cap, I6 W, I6 L, I6 TT, .bool fl] ∧ Sums true (ks.take k) W L TT fl ∧ k ≤ ks.length ∧ Ext [] w w' ∧ Ext [nb, sb] w7 w' ∧ ∀ q ∈ ks.take k, q.1 = sb) (fun ((k, W, L, TT, fl) : Nat × Int × Int × Int × Bool) => ks.length - k) (0, 0, 0, 1, true) ⟨hS.keepTo [0, 8, 9, 10, 44, 45, 46] (by kernel_rfl), hnb0, ⟨by simp [kt, sumT, cap5], by simp [kt, sumW, sumL], by simp [kt, anyF]⟩, Nat.zero_le _, hE1, Ext.refl _ _, by simp⟩ ?_
 rintro ⟨k, W, L, TT, fl⟩ a w1 ⟨hS, hnb, hsum, hkl, hEx, hEn, hsame⟩
 have hEn0 : Ext [nb, sb] w1 w1 := Ext.refl _ _
 have hsb := hB.ext hEx (by simp)
 have hallk : ∀ q ∈ ks.take k, q.2.Ok w q.1 := fun q hq => (hks q (List.mem_of_mem_take hq)).1
 have hbd := hsum.bd hallk
 refine sq fun K16 hK16 => ?_
 refine rgn 1 ?_
 refine sg wide_wide [.p] [] [(0, (Pv sb)), (8, .pointer none), (9, I6 0), (10, (Pv nb)), (44, v), (45, I6 ↑ks.length), (46, I6 ↑k), (47, .bool (decide ((↑k : Int) < ↑ks.length)))] 1 0 hS .nil fun a hS => ?_
 refine seg_end ?_
 refine hK16 _ _ ?_
 refine sq fun K17 hK17 => ?_
 refine cond_b hS rfl (fun hb18 => ?_) (fun hb18 => ?_)
 ·
  replace hb18 := of_decide_eq_true hb18
  have hk : k < ks.length := by omega
  obtain ⟨sk, tk, htk⟩ : ∃ sk tk, ks[k] = (sk, tk) := ⟨_, _, rfl⟩
  have hmem : (sk, tk) ∈ ks := htk ▸ List.getElem_mem hk
  obtain ⟨hok0, y, hyB0⟩ : tk.Ok w sk ∧ ∃ y, Blk w sk 102 #[I6 y] := hks _ hmem
  have hok := hok0.ext hEx _ (by simp)
  have hyB := hyB0.ext hEx (by simp)
  have hN : Blk w1 tk.b 106 #[(Pv sk), I6 tk.num, I6 tk.kd, I6 tk.nn, I6 tk.lk, I6 tk.ls, I6 tk.ll, I6 tk.lr, tk.ks, I6 tk.wd, I6 tk.lf, I6 tk.tt, .bool tk.fl] := hok.blk
  have htake : ks.take (k + 1) = ks.take k ++ [(sk, tk)] := by rw [List.take_succ_eq_append_getElem hk, htk]
  have hstep := hsum.step hallk hok0
  have hnt : tk.b ≠ nb := Nat.ne_of_lt (Nat.lt_of_lt_of_le hok0.blk.lt hnbn)
  have htp := Tr.Ok.tt_pos tk hok0
  have hmx := hok0.nums.max
  have hcell : w1.cell? ⟨bof v, 0 + k * 1, none⟩ = some tk.ptr := by
   rw [show 0 + k * 1 = k by omega]
   exact (hv.ext hEx (by simp)).cellAt k (by simp [hk, htk])
  refine wpIn_skip ?_
  refine hK17 _ _ ?_
  refine sq fun K19 hK19 => ?_
  refine wpIn_block ?_
  refine sq fun K20 hK20 => ?_
  refine rgn 3 ?_
  refine sg wide_wide [.run ((Po (bof v) (0 + k * 1))), .ld ((Pv tk.b)), .p] [Ru Try.prog (vS (Instr.indexAt 32 (v) (I6 ↑k))) ((Po (bof v) (0 + k * 1))) w1, w1.cell? ⟨bof v, 0 + k * 1, none⟩ = some ((Pv tk.b))] [(0, (Pv sb)), (8, .pointer none), (9, I6 0), (10, (Pv nb)), (44, v), (45, I6 ↑ks.length), (46, I6 ↑k), (12, (Pv tk.b))] 3 0 hS (.cons (ix_own (j := k) hv (by kernel_rfl) (by kernel_rfl) rfl hk) (.cons (hcell) .nil)) fun a hS => ?_
  refine seg_end ?_
  refine hK20 _ _ ?_
  refine sq fun K21 hK21 => ?_
  refine sq fun K22 hK22 => ?_
  by_cases hs : sb = sk
  ·
   subst hs
   refine rgn 6 ?_
   refine sg wide_wide [.p, .p, .p, .ld ((Pv sb)), .p, .run (.bool false)] [_, Ru Try.prog (vS (do eqGuard .neq 30 (.tmp 53) (.tmp 54) ((Pv sb)) ((Pv sb)); binOp .neq 30 ((Pv sb)) ((Pv sb)))) (.bool false) w1] [(0, (Pv sb)), (8, .pointer none), (9, I6 0), (10, (Pv nb)), (44, v), (45, I6 ↑ks.length), (46, I6 ↑k), (12, (Pv tk.b)), (55, .bool false)] 6 0 hS (.cons (hN.cell 0 rfl) (.cons (bin_ptr_neq (E := 102) (by kernel_rfl) ⟨0, by kernel_rfl⟩ hsb hsb (by simp)) .nil)) fun a hS => ?_
   refine seg_end ?_
   refine hK22 _ _ ?_
   refine cond_f hS rfl ?_
   refine wpIn_skip ?_
   refine hK21 _ _ ?_
   refine sq fun K23 hK23 => ?_
   refine region_fn2 wide_wide [.q .p, .q .p, .q .p, .q (.ld (I6 W)), .q .p, .q .p, .q .p, .q (.ld (I6 tk.wd)), .q .p, .q .p, .q .p, .e] [0, 0, 0, 0, 0, 0, 0, 0, 0, 0, 0, 0] [0, 0, 0, 0, 0, 0, 0, 0, 0, 0, 0, 0] [0, 1, 3, 7, 0, 16, 48, 112, 255, 511, 1023, 2047] [11] 1 ([(0, (Pv sb)), (8, .pointer none), (9, I6 0), (10, (Pv nb)), (44, v), (45, I6 ↑ks.length), (46, I6 ↑k), (12, (Pv tk.b)), (55, .bool false), (56, (Pv nb)), (57, (Pv nb)), (58, (Po nb 9)), (59, I6 W), (60, (Pv tk.b)), (61, (Pv tk.b)), (62, (Po tk.b 9)), (63, I6 tk.wd), (64, I6 (IntKind.i64.wrap (W + tk.wd))), (65, (Pv nb)), (66, (Po nb 9))]) [w1.drew, upd (w1.drew) (nb) 106 #[(Pv sb), I6 0, I6 3, I6 0, I6 0, I6 0, I6 0, I6 0, .slice bs ks.length cap, I6 (IntKind.i64.wrap (W + tk.wd)), I6 L, I6 TT, .bool fl]] w1.drew (fun w' => [(3, [w'.cell? ⟨nb, 9, none⟩ = some (I6 W)]), (7, [w'.cell? ⟨tk.b, 9, none⟩ = some (I6 tk.wd)])]) [0, 8, 9, 10, 44, 45, 46, 12, 55] [] hS (by kernel_rfl) (by kernel_rfl) (by kernel_rfl) (by kernel_rfl) (fun _ => by kernel_rfl) (by kernel_rfl) (by kernel_rfl) (by kernel_rfl) ?_ ?_ ?_
   ·intro e w' hw
    refine (.cons ?_ (.cons ?_ .nil))
    ·intro h1 h2
     obtain rfl : e = 0 := Nat.le_antisymm h2 h1
     obtain rfl : w' = w1.drew := hw.trans (by kernel_rfl)
     exact (.cons ((hnb.drew : Blk w1.drew nb 106 (#[(Pv sb), I6 0, I6 3, I6 0, I6 0, I6 0, I6 0, I6 0, .slice bs ks.length cap, I6 W, I6 L, I6 TT, .bool fl])).cell 9 rfl) .nil)
    ·intro h1 h2
     obtain rfl : e = 0 := Nat.le_antisymm h2 h1
     obtain rfl : w' = w1.drew := hw.trans (by kernel_rfl)
     exact (.cons ((hN.drew : Blk w1.drew tk.b 106 (#[(Pv sb), I6 tk.num, I6 tk.kd, I6 tk.nn, I6 tk.lk, I6 tk.ls, I6 tk.ll, I6 tk.lr, tk.ks, I6 tk.wd, I6 tk.lf, I6 tk.tt, .bool tk.fl])).cell 9 rfl) .nil)
   ·refine (.cons ?eq24_11 .nil)
    ·refine eff_at (w1.drew) (upd (w1.drew) (nb) 106 #[(Pv sb), I6 0, I6 3, I6 0, I6 0, I6 0, I6 0, I6 0, .slice bs ks.length cap, I6 (IntKind.i64.wrap (W + tk.wd)), I6 L, I6 TT, .bool fl]) (by kernel_rfl) (by kernel_rfl) ?_
     exact upon_store (b := nb) (off := 9) (vs := [I6 (IntKind.i64.wrap (W + tk.wd))]) (by kernel_rfl) (hnb.drew : Blk w1.drew nb 106 (#[(Pv sb), I6 0, I6 3, I6 0, I6 0, I6 0, I6 0, I6 0, .slice bs ks.length cap, I6 W, I6 L, I6 TT, .bool fl])) (by simp) ⟨by kernel_rfl, by kernel_rfl⟩
   rintro a w25 hS hw26
   replace hw26 : w25 = upd (w1.drew) (nb) 106 #[(Pv sb), I6 0, I6 3, I6 0, I6 0, I6 0, I6 0, I6 0, .slice bs ks.length cap, I6 (IntKind.i64.wrap (W + tk.wd)), I6 L, I6 TT, .bool fl] := hw26.trans (by kernel_rfl)
   have hB27 : Blk w25 nb 106 (#[(Pv sb), I6 0, I6 3, I6 0, I6 0, I6 0, I6 0, I6 0, .slice bs ks.length cap, I6 (IntKind.i64.wrap (W + tk.wd)), I6 L, I6 TT, .bool fl]) := by rw [hw26]; exact (hnb.drew).upd _ _
   have hB29 := Blk.at' hw26 ((hN.drew).updNe (Ne.symm hnt) _ _)
   have hE30 : Ext [] w w25 := by rw [hw26]; exact (hEx.drew).updIn (.inr hnbn) _ _
   have hX31 : Ext [nb] w1 w25 := by rw [hw26]; exact ((Ext.refl _ _).drew).updIn (.inl (by simp)) _ _
   have hG32 : Ext [nb, sb] w1 w25 := hEn0.trans hX31 (by simp)
   replace hS := hS.kp [(0, (Pv sb)), (8, .pointer none), (9, I6 0), (10, (Pv nb)), (44, v), (45, I6 ↑ks.length), (46, I6 ↑k), (12, (Pv tk.b)), (55, .bool false)]
   refine hK23 _ _ ?_
   refine sq fun K33 hK33 => ?_
   refine region_fn2 wide_wide [.q .p, .q .p, .q .p, .q (.ld (I6 L)), .q .p, .q .p, .q .p, .q (.ld (I6 tk.lf)), .q .p, .q .p, .q .p, .e] [0, 0, 0, 0, 0, 0, 0, 0, 0, 0, 0, 0] [0, 0, 0, 0, 0, 0, 0, 0, 0, 0, 0, 0] [0, 1, 3, 7, 0, 16, 48, 112, 255, 511, 1023, 2047] [11] 1 ([(0, (Pv sb)), (8, .pointer none), (9, I6 0), (10, (Pv nb)), (44, v), (45, I6 ↑ks.length), (46, I6 ↑k), (12, (Pv tk.b)), (55, .bool false), (67, (Pv nb)), (68, (Pv nb)), (69, (Po nb 10)), (70, I6 L), (71, (Pv tk.b)), (72, (Pv tk.b)), (73, (Po tk.b 10)), (74, I6 tk.lf), (75, I6 (IntKind.i64.wrap (L + tk.lf))), (76, (Pv nb)), (77, (Po nb 10))]) [w25.drew, upd (w25.drew) (nb) 106 #[(Pv sb), I6 0, I6 3, I6 0, I6 0, I6 0, I6 0, I6 0, .slice bs ks.length cap, I6 (IntKind.i64.wrap (W + tk.wd)), I6 (IntKind.i64.wrap (L + tk.lf)), I6 TT, .bool fl]] w25.drew (fun w' => [(3, [w'.cell? ⟨nb, 10, none⟩ = some (I6 L)]), (7, [w'.cell? ⟨tk.b, 10, none⟩ = some (I6 tk.lf)])]) [0, 8, 9, 10, 44, 45, 46, 12, 55] [] hS (by kernel_rfl) (by kernel_rfl) (by kernel_rfl) (by kernel_rfl) (fun _ => by kernel_rfl) (by kernel_rfl) (by kernel_rfl) (by kernel_rfl) ?_ ?_ ?_
   ·intro e w' hw
    refine (.cons ?_ (.cons ?_ .nil))
    ·intro h1 h2
     obtain rfl : e = 0 := Nat.le_antisymm h2 h1
     obtain rfl : w' = w25.drew := hw.trans (by kernel_rfl)
     exact (.cons ((hB27.drew : Blk w25.drew nb 106 (#[(Pv sb), I6 0, I6 3, I6 0, I6 0, I6 0, I6 0, I6 0, .slice bs ks.length cap, I6 (IntKind.i64.wrap (W + tk.wd)), I6 L, I6 TT, .bool fl])).cell 10 rfl) .nil)
    ·intro h1 h2
     obtain rfl : e = 0 := Nat.le_antisymm h2 h1
     obtain rfl : w' = w25.drew := hw.trans (by kernel_rfl)
     exact (.cons ((hB29.drew : Blk w25.drew tk.b 106 (#[(Pv sb), I6 tk.num, I6 tk.kd, I6 tk.nn, I6 tk.lk, I6 tk.ls, I6 tk.ll, I6 tk.lr, tk.ks, I6 tk.wd, I6 tk.lf, I6 tk.tt, .bool tk.fl])).cell 10 rfl) .nil)
   ·refine (.cons ?eq34_11 .nil)
    ·refine eff_at (w25.drew) (upd (w25.drew) (nb) 106 #[(Pv sb), I6 0, I6 3, I6 0, I6 0, I6 0, I6 0, I6 0, .slice bs ks.length cap, I6 (IntKind.i64.wrap (W + tk.wd)), I6 (IntKind.i64.wrap (L + tk.lf)), I6 TT, .bool fl]) (by kernel_rfl) (by kernel_rfl) ?_
     exact upon_store (b := nb) (off := 10) (vs := [I6 (IntKind.i64.wrap (L + tk.lf))]) (by kernel_rfl) (hB27.drew : Blk w25.drew nb 106 (#[(Pv sb), I6 0, I6 3, I6 0, I6 0, I6 0, I6 0, I6 0, .slice bs ks.length cap, I6 (IntKind.i64.wrap (W + tk.wd)), I6 L, I6 TT, .bool fl])) (by simp) ⟨by kernel_rfl, by kernel_rfl⟩
   rintro a w35 hS hw36
   replace hw36 : w35 = upd (w25.drew) (nb) 106 #[(Pv sb), I6 0, I6 3, I6 0, I6 0, I6 0, I6 0, I6 0, .slice bs ks.length cap, I6 (IntKind.i64.wrap (W + tk.wd)), I6 (IntKind.i64.wrap (L + tk.lf)), I6 TT, .bool fl] := hw36.trans (by kernel_rfl)
   have hB37 : Blk w35 nb 106 (#[(Pv sb), I6 0, I6 3, I6 0, I6 0, I6 0, I6 0, I6 0, .slice bs ks.length cap, I6 (IntKind.i64.wrap (W + tk.wd)), I6 (IntKind.i64.wrap (L + tk.lf)), I6 TT, .bool fl]) := by rw [hw36]; exact (hB27.drew).upd _ _
   have hB39 := Blk.at' hw36 ((hB29.drew).updNe (Ne.symm hnt) _ _)
   have hE40 : Ext [] w w35 := by rw [hw36]; exact (hE30.drew).updIn (.inr hnbn) _ _
   have hX41 : Ext [nb] w25 w35 := by rw [hw36]; exact ((Ext.refl _ _).drew).updIn (.inl (by simp)) _ _
   have hG42 : Ext [nb, sb] w1 w35 := hG32.trans hX41 (by simp)
   replace hS := hS.kp [(0, (Pv sb)), (8, .pointer none), (9, I6 0), (10, (Pv nb)), (44, v), (45, I6 ↑ks.length), (46, I6 ↑k), (12, (Pv tk.b)), (55, .bool false)]
   refine hK33 _ _ ?_
   refine sq fun K43 hK43 => ?_
   refine region_fn2 wide_wide [.q .p, .q .p, .q .p, .q .p, .q (.ld (I6 TT)), .q .p, .q .p, .q .p, .q (.ld (I6 tk.tt)), .q (.as (I6 (TT + tk.tt))), .q (.as (I6 (cap5 (TT + tk.tt)))), .q .p, .q .p, .e] [0, 0, 0, 0, 0, 0, 0, 0, 0, 0, 0, 0, 0, 0] [0, 0, 0, 0, 0, 0, 0, 0, 0, 0, 0, 0, 0, 0] [0, 0, 2, 6, 14, 0, 32, 96, 224, 510, 1022, 2047, 4095, 8191] [13] 1 ([(0, (Pv sb)), (8, .pointer none), (9, I6 0), (10, (Pv nb)), (44, v), (45, I6 ↑ks.length), (46, I6 ↑k), (12, (Pv tk.b)), (55, .bool false), (78, (Pv nb)), (79, (Pv nb)), (80, (Pv nb)), (81, (Po nb 11)), (82, I6 TT), (83, (Pv tk.b)), (84, (Pv tk.b)), (85, (Po tk.b 11)), (86, I6 tk.tt), (87, I6 (TT + tk.tt)), (88, I6 (cap5 (TT + tk.tt))), (89, (Pv nb)), (90, (Po nb 11))]) [w35.drew, upd (w35.drew) (nb) 106 #[(Pv sb), I6 0, I6 3, I6 0, I6 0, I6 0, I6 0, I6 0, .slice bs ks.length cap, I6 (IntKind.i64.wrap (W + tk.wd)), I6 (IntKind.i64.wrap (L + tk.lf)), I6 (cap5 (TT + tk.tt)), .bool fl]] w35.drew (fun w' => [(4, [w'.cell? ⟨nb, 11, none⟩ = some (I6 TT)]), (8, [w'.cell? ⟨tk.b, 11, none⟩ = some (I6 tk.tt)]), (9, [Value.int .i64 (IntKind.i64.wrap (TT + tk.tt)) = I6 (TT + tk.tt)]), (10, [Value.int .i64 (if (4194305 : Int) < TT + tk.tt then 4194305 else TT + tk.tt) = I6 (cap5 (TT + tk.tt))])]) [0, 8, 9, 10, 44, 45, 46, 12, 55] [] hS (by kernel_rfl) (by kernel_rfl) (by kernel_rfl) (by kernel_rfl) (fun _ => by kernel_rfl) (by kernel_rfl) (by kernel_rfl) (by kernel_rfl) ?_ ?_ ?_
   ·intro e w' hw
    refine (.cons ?_ (.cons ?_ (.cons ?_ (.cons ?_ .nil))))
    ·intro h1 h2
     obtain rfl : e = 0 := Nat.le_antisymm h2 h1
     obtain rfl : w' = w35.drew := hw.trans (by kernel_rfl)
     exact (.cons ((hB37.drew : Blk w35.drew nb 106 (#[(Pv sb), I6 0, I6 3, I6 0, I6 0, I6 0, I6 0, I6 0, .slice bs ks.length cap, I6 (IntKind.i64.wrap (W + tk.wd)), I6 (IntKind.i64.wrap (L + tk.lf)), I6 TT, .bool fl])).cell 11 rfl) .nil)
    ·intro h1 h2
     obtain rfl : e = 0 := Nat.le_antisymm h2 h1
     obtain rfl : w' = w35.drew := hw.trans (by kernel_rfl)
     exact (.cons ((hB39.drew : Blk w35.drew tk.b 106 (#[(Pv sb), I6 tk.num, I6 tk.kd, I6 tk.nn, I6 tk.lk, I6 tk.ls, I6 tk.ll, I6 tk.lr, tk.ks, I6 tk.wd, I6 tk.lf, I6 tk.tt, .bool tk.fl])).cell 11 rfl) .nil)
    ·exact fun _ _ => (.cons (as_i64 (by omega)) .nil)
    ·exact fun _ _ => (.cons (rfl) .nil)
   ·refine (.cons ?eq44_13 .nil)
    ·refine eff_at (w35.drew) (upd (w35.drew) (nb) 106 #[(Pv sb), I6 0, I6 3, I6 0, I6 0, I6 0, I6 0, I6 0, .slice bs ks.length cap, I6 (IntKind.i64.wrap (W + tk.wd)), I6 (IntKind.i64.wrap (L + tk.lf)), I6 (cap5 (TT + tk.tt)), .bool fl]) (by kernel_rfl) (by kernel_rfl) ?_
     exact upon_store (b := nb) (off := 11) (vs := [I6 (cap5 (TT + tk.tt))]) (by kernel_rfl) (hB37.drew : Blk w35.drew nb 106 (#[(Pv sb), I6 0, I6 3, I6 0, I6 0, I6 0, I6 0, I6 0, .slice bs ks.length cap, I6 (IntKind.i64.wrap (W + tk.wd)), I6 (IntKind.i64.wrap (L + tk.lf)), I6 TT, .bool fl])) (by simp) ⟨by kernel_rfl, by kernel_rfl⟩
   rintro a w45 hS hw46
   replace hw46 : w45 = upd (w35.drew) (nb) 106 #[(Pv sb), I6 0, I6 3, I6 0, I6 0, I6 0, I6 0, I6 0, .slice bs ks.length cap, I6 (IntKind.i64.wrap (W + tk.wd)), I6 (IntKind.i64.wrap (L + tk.lf)), I6 (cap5 (TT + tk.tt)), .bool fl] := hw46.trans (by kernel_rfl)
   have hB47 : Blk w45 nb 106 (#[(Pv sb), I6 0, I6 3, I6 0, I6 0, I6 0, I6 0, I6 0, .slice bs ks.length cap, I6 (IntKind.i64.wrap (W + tk.wd)), I6 (IntKind.i64.wrap (L + tk.lf)), I6 (cap5 (TT + tk.tt)), .bool fl]) := by rw [hw46]; exact (hB37.drew).upd _ _
   have hB49 := Blk.at' hw46 ((hB39.drew).updNe (Ne.symm hnt) _ _)
   have hE50 : Ext [] w w45 := by rw [hw46]; exact (hE40.drew).updIn (.inr hnbn) _ _
   have hX51 : Ext [nb] w35 w45 := by rw [hw46]; exact ((Ext.refl _ _).drew).updIn (.inl (by simp)) _ _
   have hG52 : Ext [nb, sb] w1 w45 := hG42.trans hX51 (by simp)
   replace hS := hS.kp [(0, (Pv sb)), (8, .pointer none), (9, I6 0), (10, (Pv nb)), (44, v), (45, I6 ↑ks.length), (46, I6 ↑k), (12, (Pv tk.b)), (55, .bool false)]
   refine hK43 _ _ ?_
   rcases (show fl = true ∨ fl = false by cases fl <;> simp) with hfl | hfl
   
   ·
    subst hfl
    refine rgn 14 ?_
    refine sg wide_wide [.p, .p, .p, .p, .ld (.bool true), .p, .no, .no, .no, .no, .p, .p, .p] [_] [(0, (Pv sb)), (8, .pointer none), (9, I6 0), (10, (Pv nb)), (44, v), (45, I6 ↑ks.length), (46, I6 ↑k), (12, (Pv tk.b)), (55, .bool false), (101, .bool true), (103, (Po nb 12))] 13 1 hS (.cons (hB47.cell 12 rfl) .nil) fun a hS => ?_
    refine eff_store wide_wide (r := 0) (b := nb) (off := 12) (vs := [.bool true]) hS (by kernel_rfl) hB47 (by simp) fun a w53 hw54 hS => ?_
    have hB55 : Blk w53 nb 106 (#[(Pv sb), I6 0, I6 3, I6 0, I6 0, I6 0, I6 0, I6 0, .slice bs ks.length cap, I6 (IntKind.i64.wrap (W + tk.wd)), I6 (IntKind.i64.wrap (L + tk.lf)), I6 (cap5 (TT + tk.tt)), .bool true]) := by rw [hw54]; exact hB47.upd _ _
    have hX58 : Ext [nb] w45 w53 := by rw [hw54]; exact (Ext.refl _ _).updIn (.inl (by simp)) _ _
    have hG59 : Ext [nb, sb] w1 w53 := hG52.trans hX58 (by simp)
    have hE60 : Ext [] w w53 := by rw [hw54]; exact hE50.updIn (.inr hnbn) _ _
    refine seg_end ?_
    refine inBlock_normal ?_
    refine hK19 _ _ ?_
    refine rgn 2 ?_
    refine sg wide_wide [.as (I6 (↑k + 1)), .p] [Value.int .i64 (IntKind.i64.wrap (↑k + 1)) = I6 (↑k + 1)] [(0, (Pv sb)), (8, .pointer none), (9, I6 0), (10, (Pv nb)), (44, v), (45, I6 ↑ks.length), (46, I6 (↑k + 1)), (12, (Pv tk.b)), (55, .bool false)] 2 0 hS (.cons (as_i64 (by omega)) .nil) fun a hS => ?_
    refine seg_end ?_
    refine ⟨(k + 1, IntKind.i64.wrap (W + tk.wd), IntKind.i64.wrap (L + tk.lf), cap5 (TT + tk.tt), true), ⟨hS.keepTo [0, 8, 9, 10, 44, 45, 46] (by kernel_rfl), hB55, by rw [htake]; simpa using hstep, hk, hE60, hEn.trans hG59 (fun b hb => .inl hb), ?_⟩, by simp; omega⟩
    rw [htake]
    intro q hq
    rcases List.mem_append.1 hq with hq | hq
    ·exact hsame q hq
    ·simp at hq; rw [hq]
   ·
    subst hfl
    refine rgn 14 ?_
    refine sg wide_wide [.p, .p, .p, .p, .ld (.bool false), .p, .p, .p, .p, .ld (.bool tk.fl), .p, .p, .p] [_, _] [(0, (Pv sb)), (8, .pointer none), (9, I6 0), (10, (Pv nb)), (44, v), (45, I6 ↑ks.length), (46, I6 ↑k), (12, (Pv tk.b)), (55, .bool false), (101, .bool tk.fl), (103, (Po nb 12))] 13 1 hS (.cons (hB47.cell 12 rfl) (.cons (hB49.cell 12 rfl) .nil)) fun a hS => ?_
    refine eff_store wide_wide (r := 0) (b := nb) (off := 12) (vs := [.bool tk.fl]) hS (by kernel_rfl) hB47 (by simp) fun a w61 hw62 hS => ?_
    have hB63 : Blk w61 nb 106 (#[(Pv sb), I6 0, I6 3, I6 0, I6 0, I6 0, I6 0, I6 0, .slice bs ks.length cap, I6 (IntKind.i64.wrap (W + tk.wd)), I6 (IntKind.i64.wrap (L + tk.lf)), I6 (cap5 (TT + tk.tt)), .bool tk.fl]) := by rw [hw62]; exact hB47.upd _ _
    have hX66 : Ext [nb] w45 w61 := by rw [hw62]; exact (Ext.refl _ _).updIn (.inl (by simp)) _ _
    have hG67 : Ext [nb, sb] w1 w61 := hG52.trans hX66 (by simp)
    have hE68 : Ext [] w w61 := by rw [hw62]; exact hE50.updIn (.inr hnbn) _ _
    refine seg_end ?_
    refine inBlock_normal ?_
    refine hK19 _ _ ?_
    refine rgn 2 ?_
    refine sg wide_wide [.as (I6 (↑k + 1)), .p] [Value.int .i64 (IntKind.i64.wrap (↑k + 1)) = I6 (↑k + 1)] [(0, (Pv sb)), (8, .pointer none), (9, I6 0), (10, (Pv nb)), (44, v), (45, I6 ↑ks.length), (46, I6 (↑k + 1)), (12, (Pv tk.b)), (55, .bool false)] 2 0 hS (.cons (as_i64 (by omega)) .nil) fun a hS => ?_
    refine seg_end ?_
    refine ⟨(k + 1, IntKind.i64.wrap (W + tk.wd), IntKind.i64.wrap (L + tk.lf), cap5 (TT + tk.tt), tk.fl), ⟨hS.keepTo [0, 8, 9, 10, 44, 45, 46] (by kernel_rfl), hB63, by rw [htake]; simpa using hstep, hk, hE68, hEn.trans hG67 (fun b hb => .inl hb), ?_⟩, by simp; omega⟩
    rw [htake]
    intro q hq
    rcases List.mem_append.1 hq with hq | hq
    ·exact hsame q hq
    ·simp at hq; rw [hq]
  ·
   have hs2 : sk ≠ sb := fun h => hs h.symm
   refine rgn 6 ?_
   refine sg wide_wide [.p, .p, .p, .ld ((Pv sk)), .p, .run (.bool true)] [_, Ru Try.prog (vS (do eqGuard .neq 30 (.tmp 53) (.tmp 54) ((Pv sk)) ((Pv sb)); binOp .neq 30 ((Pv sk)) ((Pv sb)))) (.bool true) w1] [(0, (Pv sb)), (8, .pointer none), (9, I6 0), (10, (Pv nb)), (44, v), (45, I6 ↑ks.length), (46, I6 ↑k), (12, (Pv tk.b)), (55, .bool true)] 6 0 hS (.cons (hN.cell 0 rfl) (.cons (bin_ptr_neq (E := 102) (by kernel_rfl) ⟨0, by kernel_rfl⟩ hyB hsb (by simp [hs2])) .nil)) fun a hS => ?_
   refine seg_end ?_
   refine hK22 _ _ ?_
   refine cond_t hS rfl ?_
   refine sq fun K69 hK69 => ?_
   refine rgn 2 ?_
   refine sg wide_wide [.p, .p] [] [(0, (Pv sb)), (8, .pointer none), (9, I6 100), (10, (Pv nb)), (44, v), (45, I6 ↑ks.length), (46, I6 ↑k), (12, (Pv tk.b)), (55, .bool true)] 2 0 hS .nil fun a hS => ?_
   refine seg_end ?_
   refine hK69 _ _ ?_
   refine wpIn_ret ?_
   refine then_ret ?_
   refine inBlock_ret ?_
   refine then_ret ?_
   refine then_ret ?_
   refine inBlock_ret ?_
   refine then_ret ?_
   refine ret2 hS Try.results20 rfl rfl ?_
   exact .inl ⟨⟨_, hmem, hs2⟩, rfl, hEx⟩
 ·
  replace hb18 := of_decide_eq_false hb18
  obtain rfl : k = ks.length := by omega
  rw [List.take_length] at hsum hsame
  refine wpIn_exit ?_
  refine then_exit ?_
  refine then_exit ?_
  refine inBlock_hit ?_
  refine hK14 _ _ ?_
  refine sq fun K70 hK70 => ?_
  refine sq fun K71 hK71 => ?_
  refine rgn 5 ?_
  refine sg wide_wide [.p, .p, .p, .ld (I6 TT), .p] [_] [(0, (Pv sb)), (8, .pointer none), (9, I6 0), (10, (Pv nb)), (44, v), (45, I6 ↑ks.length), (109, .bool (decide ((TT : Int) > 4194304)))] 5 0 hS (.cons (hnb.cell 11 rfl) .nil) fun a hS => ?_
  refine seg_end ?_
  refine hK71 _ _ ?_
  refine cond_b hS rfl (fun hb72 => ?_) (fun hb72 => ?_)
  ·
   replace hb72 := of_decide_eq_true hb72
   have htt2 : TT = cap5 (1 + sumT (kt ks)) := hsum.tt
   have hover : 4194304 < 1 + sumT (kt ks) := by
    unfold cap5 at htt2
    split at htt2 <;> omega
   refine sq fun K73 hK73 => ?_
   refine rgn 2 ?_
   refine sg wide_wide [.p, .p] [] [(0, (Pv sb)), (8, .pointer none), (9, I6 6), (10, (Pv nb)), (44, v), (45, I6 ↑ks.length)] 2 0 hS .nil fun a hS => ?_
   refine seg_end ?_
   refine hK73 _ _ ?_
   refine wpIn_ret ?_
   refine then_ret ?_
   refine ret2 hS Try.results20 rfl rfl ?_
   exact .inr (.inl ⟨hsame, hover, rfl, hEx⟩)
  ·
   replace hb72 := of_decide_eq_false hb72
   have htt2 : TT = cap5 (1 + sumT (kt ks)) := hsum.tt
   have hroom : 1 + sumT (kt ks) ≤ 4194304 := by
    unfold cap5 at htt2
    split at htt2 <;> omega
   have htt3 : TT = 1 + sumT (kt ks) := by
    rw [htt2]; unfold cap5; rw [if_neg (by omega)]
   have hEs : Ext [sb] w w1 := hEx.of0
   refine wpIn_skip ?_
   refine hK70 _ _ ?_
   refine sq fun K74 hK74 => ?_
   refine rgn 8 ?_
   refine sg wide_wide [.p, .p, .p, .p] [] [(0, (Pv sb)), (8, .pointer none), (9, I6 0), (10, (Pv nb)), (44, v), (45, I6 ↑ks.length), (110, (Pv nb)), (113, (Pv sb))] 4 4 hS .nil fun a hS => ?_
   refine eff_call wide_wide (r := 3) (f := 52) (vs := [(Pv sb), I6 1]) (cap := #[]) (d := (some 114)) hS (by kernel_rfl) Try.call52 #[(Pv sb), I6 1] (by kernel_rfl) (Add_any hsb hx) ?_
   rintro _ wA ⟨rfl, hw75⟩
   refine ⟨_, rfl, fun a hS => ?_⟩
   have hB76 := Blk.at' hw75 (hnb.updNe (Blk.ne_type hsb hnb (by decide)) _ _)
   have hB77 : Blk wA sb 102 (#[I6 (x + 1)]) := by rw [hw75]; exact hsb.upd _ _
   have hX78 : Ext [sb] w1 wA := by rw [hw75]; exact (Ext.refl _ _).updIn (.inl (by simp)) _ _
   have hG79 : Ext [nb, sb] w1 wA := hEn0.trans hX78 (by simp)
   have hE80 : Ext [sb] w wA := by rw [hw75]; exact hEs.updIn (.inl (by simp)) _ _
   refine sg wide_wide [.p, .p] [] [(0, (Pv sb)), (8, .pointer none), (9, I6 0), (10, (Pv nb)), (44, v), (45, I6 ↑ks.length), (114, I6 (x + 1)), (116, (Po nb 1))] 7 1 hS .nil fun a hS => ?_
   refine eff_store wide_wide (r := 0) (b := nb) (off := 1) (vs := [I6 (x + 1)]) hS (by kernel_rfl) hB76 (by simp) fun a w81 hw82 hS => ?_
   have hB83 : Blk w81 nb 106 (#[(Pv sb), I6 (x + 1), I6 3, I6 0, I6 0, I6 0, I6 0, I6 0, .slice bs ks.length cap, I6 W, I6 L, I6 TT, .bool fl]) := by rw [hw82]; exact hB76.upd _ _
   have hB84 := Blk.at' hw82 (hB77.updNe (Ne.symm (Blk.ne_type hsb hnb (by decide))) _ _)
   have hX85 : Ext [nb] wA w81 := by rw [hw82]; exact (Ext.refl _ _).updIn (.inl (by simp)) _ _
   have hG86 : Ext [nb, sb] w1 w81 := hG79.trans hX85 (by simp)
   have hE87 : Ext [sb] w w81 := by rw [hw82]; exact hE80.updIn (.inr hnbn) _ _
   refine seg_end ?_
   refine hK74 _ _ ?_
   refine sq fun K88 hK88 => ?_
   refine rgn 3 ?_
   refine sg wide_wide [.p, .p, .p] [] [(0, (Pv sb)), (8, (Pv nb)), (9, I6 0), (10, (Pv nb)), (44, v), (45, I6 ↑ks.length)] 3 0 hS .nil fun a hS => ?_
   refine seg_end ?_
   refine hK88 _ _ ?_
   refine wpIn_ret ?_
   refine ret2 hS Try.results20 rfl rfl ?_
   exact by
    have hnm : ∀ b ∈ ob (.slice bs ks.length cap), b ∉ [nb, sb] := fun b hb hm => by
     have hm : b = nb ∨ b = sb := by simpa using hm
     rcases hm with rfl | rfl
     ·exact hvs1.2 _ hb rfl
     ·have := hnvs _ hb; have := hB.lt; omega
    have hE9 : Ext [nb, sb] w1 w81 := hG86
    have hvs9 : OwnV w81 47 1 (.slice bs ks.length cap) ks.length (ks.map fun q => q.2.ptr) := (hvs1.1.ext hEn hnm).ext hE9 hnm
    obtain ⟨hW, hL⟩ := hsum.wl hroom
    have hok9 : ∀ q ∈ ks, q.2.Ok w81 sb := fun q hq => by
     have h1 := (hks q hq).1
     rw [hsame q hq] at h1
     exact h1.ext hE87 q.2 (fun b hb => by simp at hb; subst hb; exact h1.not_foot hB (by decide) (by decide))
    refine .inr (.inr ⟨hsame, hroom, nb, _, rfl, hnbn, hnvs, (Tr.ok_iff _).2 ⟨⟨?_, ?_, ?_, ?_, hroom, by simp [Tr.kd, Tr.nn]⟩, ?_⟩, hB84, hE87⟩)
    ·have h9 := hB83
     rw [hW, hL, htt3, hsum.fl] at h9
     exact h9
    ·simpa [Tr.ks, Tr.kids, kt, Function.comp_def] using hvs9
    ·intro h; simp [Tr.kd] at h
    ·intro _; simp [Tr.kd, Tr.nn, Tr.lk, Tr.ls, Tr.ll, Tr.lr, Tr.wd, Tr.lf, Tr.tt, Tr.fl, Tr.kids]
    ·exact oks_iff.2 fun t ht => by
      simp only [Tr.kids, kt, List.mem_map] at ht
      obtain ⟨q, hq, rfl⟩ := ht
      exact hok9 q hq

set_option maxHeartbeats 1000000 in
theorem Make_4 {sb : Nat} {x : Int} {v : Value} {ks : List (Nat × Tr)} {w : World} (hB : Blk w sb 102 #[I6 x]) (hx : 0 ≤ x ∧ x < 4611686018427387904) (hv : OwnV w 47 1 v ks.length (ks.map fun q => q.2.ptr)) (hks : ∀ q ∈ ks, q.2.Ok w q.1 ∧ ∃ y, Blk w q.1 102 #[I6 y]) (hlen : ks.length ≤ 17592186044416) :
  Calls Try.prog 20 #[(Pv sb), I6 4, I6 0, v] w fun e w' => MakeOut w sb x 4 0 ks e w' := by
 refine calls_body 118 [(0, (Pv sb)), (1, I6 4), (2, I6 0), (3, v)] Try.func20 rfl (by kernel_rfl) (by kernel_rfl) (by kernel_rfl) fun a hS => ?_
 have hE0 : Ext [] w w := Ext.refl _ _
 refine sq fun K1 hK1 => ?_
 refine rgn 2 ?_
 refine sg wide_wide [.p, .p] [] [(0, (Pv sb)), (1, I6 4), (2, I6 0), (3, v), (8, .pointer none), (9, I6 0)] 2 0 hS .nil fun a hS => ?_
 refine seg_end ?_
 refine hK1 _ _ ?_
 refine sq fun K2 hK2 => ?_
 refine sq fun K3 hK3 => ?_
 refine rgn 18 ?_
 refine sg wide_wide [.p, .p, .p, .p, .p, .p, .p, .p, .p, .p, .p, .p, .p, .p, .no, .no, .p, .p] [] [(0, (Pv sb)), (1, I6 4), (2, I6 0), (3, v), (8, .pointer none), (9, I6 0), (30, .bool false)] 18 0 hS .nil fun a hS => ?_
 refine seg_end ?_
 refine hK3 _ _ ?_
 refine cond_f hS rfl ?_
 refine wpIn_skip ?_
 refine hK2 _ _ ?_
 refine sq fun K4 hK4 => ?_
 refine rgn 14 ?_
 refine sg wide_wide [.p, .p, .p, .p] [] [(0, (Pv sb)), (1, I6 4), (2, I6 0), (3, v), (8, .pointer none), (9, I6 0), (30, .bool false), (31, (Pv sb)), (32, I6 4), (33, I6 0), (34, v)] 4 10 hS .nil fun a hS => ?_
 have hv5 := hv.ext hE0 (by simp)
 refine eff_call wide_wide (r := 9) (f := 54) (vs := [v]) (cap := #[]) (d := (some 35)) hS (by kernel_rfl) Try.call54 #[v] (by kernel_rfl) (Clone_ks hv5 (by omega)) ?_
 rintro _ wc ⟨bs, cap, rfl, hvs, hEc, hnvs⟩
 refine ⟨_, rfl, fun a hS => ?_⟩
 have hEc0 : Ext [] w wc := hE0.trans0 hEc
 replace hnvs : ∀ b ∈ ob (.slice bs ks.length cap), w.heap.size ≤ b := fun b hb => Nat.le_trans hE0.size (hnvs b hb)
 refine sg wide_wide [.p, .p, .p, .p, .p, .p, .p] [] [(0, (Pv sb)), (1, I6 4), (2, I6 0), (3, v), (8, .pointer none), (9, I6 0), (30, .bool false), (42, .agg #[(Pv sb), I6 0, I6 4, I6 0, I6 0, I6 0, I6 0, I6 0, .slice bs ks.length cap, I6 0, I6 0, I6 1, .bool false])] 12 2 hS .nil fun a hS => ?_
 refine eff_box wide_wide (r := 1) (cs := #[(Pv sb), I6 0, I6 4, I6 0, I6 0, I6 0, I6 0, I6 0, .slice bs ks.length cap, I6 0, I6 0, I6 1, .bool false]) (T := 106) (d := (some 43)) hS (by kernel_rfl) fun a w7 hw8 hS => ?_
 have hB11 : Blk w7 (wc.heap.size) 106 #[(Pv sb), I6 0, I6 4, I6 0, I6 0, I6 0, I6 0, I6 0, .slice bs ks.length cap, I6 0, I6 0, I6 1, .bool false] := by rw [hw8]; exact Blk.new _ _ _
 have hs12 : w.heap.size ≤ wc.heap.size := hEc0.size
 have hE13 : Ext [] w w7 := by rw [hw8]; exact hEc0.alloc _
 refine sg wide_wide [.p] [] [(0, (Pv sb)), (1, I6 4), (2, I6 0), (3, v), (8, .pointer none), (9, I6 0), (30, .bool false), (10, (Pv wc.heap.size))] 14 0 hS .nil fun a hS => ?_
 refine seg_end ?_
 refine hK4 _ _ ?_
 refine sq fun K14 hK14 => ?_
 refine sq fun K15 hK15 => ?_
 refine rgn 3 ?_
 refine sg wide_wide [.p, .run (I6 ↑ks.length), .p] [Ru Try.prog (vS (Builtin.len_ #[32] 3 #[v])) (I6 ↑ks.length) w7] [(0, (Pv sb)), (1, I6 4), (2, I6 0), (3, v), (8, .pointer none), (9, I6 0), (30, .bool false), (10, (Pv wc.heap.size)), (44, v), (45, I6 ↑ks.length), (46, I6 0)] 3 0 hS (.cons (run_len_own hv (by kernel_rfl)) .nil) fun a hS => ?_
 refine seg_end ?_
 refine hK15 _ _ ?_
 refine wpIn_block ?_
 have hvs1 := hvs.ext (by rw [hw8]; exact (Ext.refl _ _).alloc _ : Ext [] wc w7) (by simp)
 have hnbv : ∀ b ∈ ob (.slice bs ks.length cap), b ≠ wc.heap.size := fun b hb => Nat.ne_of_lt (hvs.lie b hb)
 have hnbn := hs12
 have hnb0 := hB11
 have hsz0 : wc.heap.size < w7.heap.size := hB11.lt
 have hE1 := hE13
 generalize hgnb : wc.heap.size = nb at hS hnbv hnbn hnb0 hsz0
 replace hvs1 : OwnV w7 47 1 (.slice bs ks.length cap) ks.length (ks.map fun q => q.2.ptr) ∧ ∀ b ∈ ob (.slice bs ks.length cap), b ≠ nb := ⟨hvs1, hnbv⟩
 refine loop_ghost (fun ((k, W, L, TT, fl) : Nat × Int × Int × Int × Bool) a' w' => St 118 [] [(0, (Pv sb)), (8, .pointer none), (9, I6 0), (10, (Pv nb)), (44, v), (45, I6 ↑ks.length), (46, I6 ↑k)] a' ∧ Blk w' nb 106 #[(Pv sb), I6 0, I6 4, I6 0, I6 0, I6 0, I6 0, I6 0, .slice bs ks.length cap, I6 W, I6 L, I6 TT, .bool fl] ∧ Sums false (ks.take k) W L TT fl ∧ k ≤ ks.length ∧ Ext [] w w' ∧ Ext [nb, sb] w7 w' ∧ ∀ q ∈ ks.take k, q.1 = sb) (fun ((k, W, L, TT, fl) : Nat × Int × Int × Int × Bool) => ks.length - k) (0, 0, 0, 1, false) ⟨hS.keepTo [0, 8, 9, 10, 44, 45, 46] (by kernel_rfl), hnb0, ⟨by simp [kt, sumT, cap5], by simp [kt, sumW, sumL], by simp [kt, anyF]⟩, Nat.zero_le _, hE1, Ext.refl _ _, by simp⟩ ?_
 rintro ⟨k, W, L, TT, fl⟩ a w1 ⟨hS, hnb, hsum, hkl, hEx, hEn, hsame⟩
 have hEn0 : Ext [nb, sb] w1 w1 := Ext.refl _ _
 have hsb := hB.ext hEx (by simp)
 have hallk : ∀ q ∈ ks.take k, q.2.Ok w q.1 := fun q hq => (hks q (List.mem_of_mem_take hq)).1
 have hbd := hsum.bd hallk
 refine sq fun K16 hK16 => ?_
 refine rgn 1 ?_
 refine sg wide_wide [.p] [] [(0, (Pv sb)), (8, .pointer none), (9, I6 0), (10, (Pv nb)), (44, v), (45, I6 ↑ks.length), (46, I6 ↑k), (47, .bool (decide ((↑k : Int) < ↑ks.length)))] 1 0 hS .nil fun a hS => ?_
 refine seg_end ?_
 refine hK16 _ _ ?_
 refine sq fun K17 hK17 => ?_
 refine cond_b hS rfl (fun hb18 => ?_) (fun hb18 => ?_)
 ·
  replace hb18 := of_decide_eq_true hb18
  have hk : k < ks.length := by omega
  obtain ⟨sk, tk, htk⟩ : ∃ sk tk, ks[k] = (sk, tk) := ⟨_, _, rfl⟩
  have hmem : (sk, tk) ∈ ks := htk ▸ List.getElem_mem hk
  obtain ⟨hok0, y, hyB0⟩ : tk.Ok w sk ∧ ∃ y, Blk w sk 102 #[I6 y] := hks _ hmem
  have hok := hok0.ext hEx _ (by simp)
  have hyB := hyB0.ext hEx (by simp)
  have hN : Blk w1 tk.b 106 #[(Pv sk), I6 tk.num, I6 tk.kd, I6 tk.nn, I6 tk.lk, I6 tk.ls, I6 tk.ll, I6 tk.lr, tk.ks, I6 tk.wd, I6 tk.lf, I6 tk.tt, .bool tk.fl] := hok.blk
  have htake : ks.take (k + 1) = ks.take k ++ [(sk, tk)] := by rw [List.take_succ_eq_append_getElem hk, htk]
  have hstep := hsum.step hallk hok0
  have hnt : tk.b ≠ nb := Nat.ne_of_lt (Nat.lt_of_lt_of_le hok0.blk.lt hnbn)
  have htp := Tr.Ok.tt_pos tk hok0
  have hmx := hok0.nums.max
  have hcell : w1.cell? ⟨bof v, 0 + k * 1, none⟩ = some tk.ptr := by
   rw [show 0 + k * 1 = k by omega]
   exact (hv.ext hEx (by simp)).cellAt k (by simp [hk, htk])
  refine wpIn_skip ?_
  refine hK17 _ _ ?_
  refine sq fun K19 hK19 => ?_
  refine wpIn_block ?_
  refine sq fun K20 hK20 => ?_
  refine rgn 3 ?_
  refine sg wide_wide [.run ((Po (bof v) (0 + k * 1))), .ld ((Pv tk.b)), .p] [Ru Try.prog (vS (Instr.indexAt 32 (v) (I6 ↑k))) ((Po (bof v) (0 + k * 1))) w1, w1.cell? ⟨bof v, 0 + k * 1, none⟩ = some ((Pv tk.b))] [(0, (Pv sb)), (8, .pointer none), (9, I6 0), (10, (Pv nb)), (44, v), (45, I6 ↑ks.length), (46, I6 ↑k), (12, (Pv tk.b))] 3 0 hS (.cons (ix_own (j := k) hv (by kernel_rfl) (by kernel_rfl) rfl hk) (.cons (hcell) .nil)) fun a hS => ?_
  refine seg_end ?_
  refine hK20 _ _ ?_
  refine sq fun K21 hK21 => ?_
  refine sq fun K22 hK22 => ?_
  by_cases hs : sb = sk
  ·
   subst hs
   refine rgn 6 ?_
   refine sg wide_wide [.p, .p, .p, .ld ((Pv sb)), .p, .run (.bool false)] [_, Ru Try.prog (vS (do eqGuard .neq 30 (.tmp 53) (.tmp 54) ((Pv sb)) ((Pv sb)); binOp .neq 30 ((Pv sb)) ((Pv sb)))) (.bool false) w1] [(0, (Pv sb)), (8, .pointer none), (9, I6 0), (10, (Pv nb)), (44, v), (45, I6 ↑ks.length), (46, I6 ↑k), (12, (Pv tk.b)), (55, .bool false)] 6 0 hS (.cons (hN.cell 0 rfl) (.cons (bin_ptr_neq (E := 102) (by kernel_rfl) ⟨0, by kernel_rfl⟩ hsb hsb (by simp)) .nil)) fun a hS => ?_
   refine seg_end ?_
   refine hK22 _ _ ?_
   refine cond_f hS rfl ?_
   refine wpIn_skip ?_
   refine hK21 _ _ ?_
   refine sq fun K23 hK23 => ?_
   refine region_fn2 wide_wide [.q .p, .q .p, .q .p, .q (.ld (I6 W)), .q .p, .q .p, .q .p, .q (.ld (I6 tk.wd)), .q .p, .q .p, .q .p, .e] [0, 0, 0, 0, 0, 0, 0, 0, 0, 0, 0, 0] [0, 0, 0, 0, 0, 0, 0, 0, 0, 0, 0, 0] [0, 1, 3, 7, 0, 16, 48, 112, 255, 511, 1023, 2047] [11] 1 ([(0, (Pv sb)), (8, .pointer none), (9, I6 0), (10, (Pv nb)), (44, v), (45, I6 ↑ks.length), (46, I6 ↑k), (12, (Pv tk.b)), (55, .bool false), (56, (Pv nb)), (57, (Pv nb)), (58, (Po nb 9)), (59, I6 W), (60, (Pv tk.b)), (61, (Pv tk.b)), (62, (Po tk.b 9)), (63, I6 tk.wd), (64, I6 (IntKind.i64.wrap (W + tk.wd))), (65, (Pv nb)), (66, (Po nb 9))]) [w1.drew, upd (w1.drew) (nb) 106 #[(Pv sb), I6 0, I6 4, I6 0, I6 0, I6 0, I6 0, I6 0, .slice bs ks.length cap, I6 (IntKind.i64.wrap (W + tk.wd)), I6 L, I6 TT, .bool fl]] w1.drew (fun w' => [(3, [w'.cell? ⟨nb, 9, none⟩ = some (I6 W)]), (7, [w'.cell? ⟨tk.b, 9, none⟩ = some (I6 tk.wd)])]) [0, 8, 9, 10, 44, 45, 46, 12, 55] [] hS (by kernel_rfl) (by kernel_rfl) (by kernel_rfl) (by kernel_rfl) (fun _ => by kernel_rfl) (by kernel_rfl) (by kernel_rfl) (by kernel_rfl) ?_ ?_ ?_
   ·intro e w' hw
    refine (.cons ?_ (.cons ?_ .nil))
    ·intro h1 h2
     obtain rfl : e = 0 := Nat.le_antisymm h2 h1
     obtain rfl : w' = w1.drew := hw.trans (by kernel_rfl)
     exact (.cons ((hnb.drew : Blk w1.drew nb 106 (#[(Pv sb), I6 0, I6 4, I6 0, I6 0, I6 0, I6 0, I6 0, .slice bs ks.length cap, I6 W, I6 L, I6 TT, .bool fl])).cell 9 rfl) .nil)
    ·intro h1 h2
     obtain rfl : e = 0 := Nat.le_antisymm h2 h1
     obtain rfl : w' = w1.drew := hw.trans (by kernel_rfl)
     exact (.cons ((hN.drew : Blk w1.drew tk.b 106 (#[(Pv sb), I6 tk.num, I6 tk.kd, I6 tk.nn, I6 tk.lk, I6 tk.ls, I6 tk.ll, I6 tk.lr, tk.ks, I6 tk.wd, I6 tk.lf, I6 tk.tt, .bool tk.fl])).cell 9 rfl) .nil)
   ·refine (.cons ?eq24_11 .nil)
    ·refine eff_at (w1.drew) (upd (w1.drew) (nb) 106 #[(Pv sb), I6 0, I6 4, I6 0, I6 0, I6 0, I6 0, I6 0, .slice bs ks.length cap, I6 (IntKind.i64.wrap (W + tk.wd)), I6 L, I6 TT, .bool fl]) (by kernel_rfl) (by kernel_rfl) ?_
     exact upon_store (b := nb) (off := 9) (vs := [I6 (IntKind.i64.wrap (W + tk.wd))]) (by kernel_rfl) (hnb.drew : Blk w1.drew nb 106 (#[(Pv sb), I6 0, I6 4, I6 0, I6 0, I6 0, I6 0, I6 0, .slice bs ks.length cap, I6 W, I6 L, I6 TT, .bool fl])) (by simp) ⟨by kernel_rfl, by kernel_rfl⟩
   rintro a w25 hS hw26
   replace hw26 : w25 = upd (w1.drew) (nb) 106 #[(Pv sb), I6 0, I6 4, I6 0, I6 0, I6 0, I6 0, I6 0, .slice bs ks.length cap, I6 (IntKind.i64.wrap (W + tk.wd)), I6 L, I6 TT, .bool fl] := hw26.trans (by kernel_rfl)
   have hB27 : Blk w25 nb 106 (#[(Pv sb), I6 0, I6 4, I6 0, I6 0, I6 0, I6 0, I6 0, .slice bs ks.length cap, I6 (IntKind.i64.wrap (W + tk.wd)), I6 L, I6 TT, .bool fl]) := by rw [hw26]; exact (hnb.drew).upd _ _
   have hB29 := Blk.at' hw26 ((hN.drew).updNe (Ne.symm hnt) _ _)
   have hE30 : Ext [] w w25 := by rw [hw26]; exact (hEx.drew).updIn (.inr hnbn) _ _
   have hX31 : Ext [nb] w1 w25 := by rw [hw26]; exact ((Ext.refl _ _).drew).updIn (.inl (by simp)) _ _
   have hG32 : Ext [nb, sb] w1 w25 := hEn0.trans hX31 (by simp)
   replace hS := hS.kp [(0, (Pv sb)), (8, .pointer none), (9, I6 0), (10, (Pv nb)), (44, v), (45, I6 ↑ks.length), (46, I6 ↑k), (12, (Pv tk.b)), (55, .bool false)]
   refine hK23 _ _ ?_
   refine sq fun K33 hK33 => ?_
   refine region_fn2 wide_wide [.q .p, .q .p, .q .p, .q (.ld (I6 L)), .q .p, .q .p, .q .p, .q (.ld (I6 tk.lf)), .q .p, .q .p, .q .p, .e] [0, 0, 0, 0, 0, 0, 0, 0, 0, 0, 0, 0] [0, 0, 0, 0, 0, 0, 0, 0, 0, 0, 0, 0] [0, 1, 3, 7, 0, 16, 48, 112, 255, 511, 1023, 2047] [11] 1 ([(0, (Pv sb)), (8, .pointer none), (9, I6 0), (10, (Pv nb)), (44, v), (45, I6 ↑ks.length), (46, I6 ↑k), (12, (Pv tk.b)), (55, .bool false), (67, (Pv nb)), (68, (Pv nb)), (69, (Po nb 10)), (70, I6 L), (71, (Pv tk.b)), (72, (Pv tk.b)), (73, (Po tk.b 10)), (74, I6 tk.lf), (75, I6 (IntKind.i64.wrap (L + tk.lf))), (76, (Pv nb)), (77, (Po nb 10))]) [w25.drew, upd (w25.drew) (nb) 106 #[(Pv sb), I6 0, I6 4, I6 0, I6 0, I6 0, I6 0, I6 0, .slice bs ks.length cap, I6 (IntKind.i64.wrap (W + tk.wd)), I6 (IntKind.i64.wrap (L + tk.lf)), I6 TT, .bool fl]] w25.drew (fun w' => [(3, [w'.cell? ⟨nb, 10, none⟩ = some (I6 L)]), (7, [w'.cell? ⟨tk.b, 10, none⟩ = some (I6 tk.lf)])]) [0, 8, 9, 10, 44, 45, 46, 12, 55] [] hS (by kernel_rfl) (by kernel_rfl) (by kernel_rfl) (by kernel_rfl) (fun _ => by kernel_rfl) (by kernel_rfl) (by kernel_rfl) (by kernel_rfl) ?_ ?_ ?_
   ·intro e w' hw
    refine (.cons ?_ (.cons ?_ .nil))
    ·intro h1 h2
     obtain rfl : e = 0 := Nat.le_antisymm h2 h1
     obtain rfl : w' = w25.drew := hw.trans (by kernel_rfl)
     exact (.cons ((hB27.drew : Blk w25.drew nb 106 (#[(Pv sb), I6 0, I6 4, I6 0, I6 0, I6 0, I6 0, I6 0, .slice bs ks.length cap, I6 (IntKind.i64.wrap (W + tk.wd)), I6 L, I6 TT, .bool fl])).cell 10 rfl) .nil)
    ·intro h1 h2
     obtain rfl : e = 0 := Nat.le_antisymm h2 h1
     obtain rfl : w' = w25.drew := hw.trans (by kernel_rfl)
     exact (.cons ((hB29.drew : Blk w25.drew tk.b 106 (#[(Pv sb), I6 tk.num, I6 tk.kd, I6 tk.nn, I6 tk.lk, I6 tk.ls, I6 tk.ll, I6 tk.lr, tk.ks, I6 tk.wd, I6 tk.lf, I6 tk.tt, .bool tk.fl])).cell 10 rfl) .nil)
   ·refine (.cons ?eq34_11 .nil)
    ·refine eff_at (w25.drew) (upd (w25.drew) (nb) 106 #[(Pv sb), I6 0, I6 4, I6 0, I6 0, I6 0, I6 0, I6 0, .slice bs ks.length cap, I6 (IntKind.i64.wrap (W + tk.wd)), I6 (IntKind.i64.wrap (L + tk.lf)), I6 TT, .bool fl]) (by kernel_rfl) (by kernel_rfl) ?_
     exact upon_store (b := nb) (off := 10) (vs := [I6 (IntKind.i64.wrap (L + tk.lf))]) (by kernel_rfl) (hB27.drew : Blk w25.drew nb 106 (#[(Pv sb), I6 0, I6 4, I6 0, I6 0, I6 0, I6 0, I6 0, .slice bs ks.length cap, I6 (IntKind.i64.wrap (W + tk.wd)), I6 L, I6 TT, .bool fl])) (by simp) ⟨by kernel_rfl, by kernel_rfl⟩
   rintro a w35 hS hw36
   replace hw36 : w35 = upd (w25.drew) (nb) 106 #[(Pv sb), I6 0, I6 4, I6 0, I6 0, I6 0, I6 0, I6 0, .slice bs ks.length cap, I6 (IntKind.i64.wrap (W + tk.wd)), I6 (IntKind.i64.wrap (L + tk.lf)), I6 TT, .bool fl] := hw36.trans (by kernel_rfl)
   have hB37 : Blk w35 nb 106 (#[(Pv sb), I6 0, I6 4, I6 0, I6 0, I6 0, I6 0, I6 0, .slice bs ks.length cap, I6 (IntKind.i64.wrap (W + tk.wd)), I6 (IntKind.i64.wrap (L + tk.lf)), I6 TT, .bool fl]) := by rw [hw36]; exact (hB27.drew).upd _ _
   have hB39 := Blk.at' hw36 ((hB29.drew).updNe (Ne.symm hnt) _ _)
   have hE40 : Ext [] w w35 := by rw [hw36]; exact (hE30.drew).updIn (.inr hnbn) _ _
   have hX41 : Ext [nb] w25 w35 := by rw [hw36]; exact ((Ext.refl _ _).drew).updIn (.inl (by simp)) _ _
   have hG42 : Ext [nb, sb] w1 w35 := hG32.trans hX41 (by simp)
   replace hS := hS.kp [(0, (Pv sb)), (8, .pointer none), (9, I6 0), (10, (Pv nb)), (44, v), (45, I6 ↑ks.length), (46, I6 ↑k), (12, (Pv tk.b)), (55, .bool false)]
   refine hK33 _ _ ?_
   refine sq fun K43 hK43 => ?_
   refine region_fn2 wide_wide [.q .p, .q .p, .q .p, .q .p, .q (.ld (I6 TT)), .q .p, .q .p, .q .p, .q (.ld (I6 tk.tt)), .q (.as (I6 (TT + tk.tt))), .q (.as (I6 (cap5 (TT + tk.tt)))), .q .p, .q .p, .e] [0, 0, 0, 0, 0, 0, 0, 0, 0, 0, 0, 0, 0, 0] [0, 0, 0, 0, 0, 0, 0, 0, 0, 0, 0, 0, 0, 0] [0, 0, 2, 6, 14, 0, 32, 96, 224, 510, 1022, 2047, 4095, 8191] [13] 1 ([(0, (Pv sb)), (8, .pointer none), (9, I6 0), (10, (Pv nb)), (44, v), (45, I6 ↑ks.length), (46, I6 ↑k), (12, (Pv tk.b)), (55, .bool false), (78, (Pv nb)), (79, (Pv nb)), (80, (Pv nb)), (81, (Po nb 11)), (82, I6 TT), (83, (Pv tk.b)), (84, (Pv tk.b)), (85, (Po tk.b 11)), (86, I6 tk.tt), (87, I6 (TT + tk.tt)), (88, I6 (cap5 (TT + tk.tt))), (89, (Pv nb)), (90, (Po nb 11))]) [w35.drew, upd (w35.drew) (nb) 106 #[(Pv sb), I6 0, I6 4, I6 0, I6 0, I6 0, I6 0, I6 0, .slice bs ks.length cap, I6 (IntKind.i64.wrap (W + tk.wd)), I6 (IntKind.i64.wrap (L + tk.lf)), I6 (cap5 (TT + tk.tt)), .bool fl]] w35.drew (fun w' => [(4, [w'.cell? ⟨nb, 11, none⟩ = some (I6 TT)]), (8, [w'.cell? ⟨tk.b, 11, none⟩ = some (I6 tk.tt)]), (9, [Value.int .i64 (IntKind.i64.wrap (TT + tk.tt)) = I6 (TT + tk.tt)]), (10, [Value.int .i64 (if (4194305 : Int) < TT + tk.tt then 4194305 else TT + tk.tt) = I6 (cap5 (TT + tk.tt))])]) [0, 8, 9, 10, 44, 45, 46, 12, 55] [] hS (by kernel_rfl) (by kernel_rfl) (by kernel_rfl) (by kernel_rfl) (fun _ => by kernel_rfl) (by kernel_rfl) (by kernel_rfl) (by kernel_rfl) ?_ ?_ ?_
   ·intro e w' hw
    refine (.cons ?_ (.cons ?_ (.cons ?_ (.cons ?_ .nil))))
    ·intro h1 h2
     obtain rfl : e = 0 := Nat.le_antisymm h2 h1
     obtain rfl : w' = w35.drew := hw.trans (by kernel_rfl)
     exact (.cons ((hB37.drew : Blk w35.drew nb 106 (#[(Pv sb), I6 0, I6 4, I6 0, I6 0, I6 0, I6 0, I6 0, .slice bs ks.length cap, I6 (IntKind.i64.wrap (W + tk.wd)), I6 (IntKind.i64.wrap (L + tk.lf)), I6 TT, .bool fl])).cell 11 rfl) .nil)
    ·intro h1 h2
     obtain rfl : e = 0 := Nat.le_antisymm h2 h1
     obtain rfl : w' = w35.drew := hw.trans (by kernel_rfl)
     exact (.cons ((hB39.drew : Blk w35.drew tk.b 106 (#[(Pv sb), I6 tk.num, I6 tk.kd, I6 tk.nn, I6 tk.lk, I6 tk.ls, I6 tk.ll, I6 tk.lr, tk.ks, I6 tk.wd, I6 tk.lf, I6 tk.tt, .bool tk.fl])).cell 11 rfl) .nil)
    ·exact fun _ _ => (.cons (as_i64 (by omega)) .nil)
    ·exact fun _ _ => (.cons (rfl) .nil)
   ·refine (.cons ?eq44_13 .nil)
    ·refine eff_at (w35.drew) (upd (w35.drew) (nb) 106 #[(Pv sb), I6 0, I6 4, I6 0, I6 0, I6 0, I6 0, I6 0, .slice bs ks.length cap, I6 (IntKind.i64.wrap (W + tk.wd)), I6 (IntKind.i64.wrap (L + tk.lf)), I6 (cap5 (TT + tk.tt)), .bool fl]) (by kernel_rfl) (by kernel_rfl) ?_
     exact upon_store (b := nb) (off := 11) (vs := [I6 (cap5 (TT + tk.tt))]) (by kernel_rfl) (hB37.drew : Blk w35.drew nb 106 (#[(Pv sb), I6 0, I6 4, I6 0, I6 0, I6 0, I6 0, I6 0, .slice bs ks.length cap, I6 (IntKind.i64.wrap (W + tk.wd)), I6 (IntKind.i64.wrap (L + tk.lf)), I6 TT, .bool fl])) (by simp) ⟨by kernel_rfl, by kernel_rfl⟩
   rintro a w45 hS hw46
   replace hw46 : w45 = upd (w35.drew) (nb) 106 #[(Pv sb), I6 0, I6 4, I6 0, I6 0, I6 0, I6 0, I6 0, .slice bs ks.length cap, I6 (IntKind.i64.wrap (W + tk.wd)), I6 (IntKind.i64.wrap (L + tk.lf)), I6 (cap5 (TT + tk.tt)), .bool fl] := hw46.trans (by kernel_rfl)
   have hB47 : Blk w45 nb 106 (#[(Pv sb), I6 0, I6 4, I6 0, I6 0, I6 0, I6 0, I6 0, .slice bs ks.length cap, I6 (IntKind.i64.wrap (W + tk.wd)), I6 (IntKind.i64.wrap (L + tk.lf)), I6 (cap5 (TT + tk.tt)), .bool fl]) := by rw [hw46]; exact (hB37.drew).upd _ _
   have hB49 := Blk.at' hw46 ((hB39.drew).updNe (Ne.symm hnt) _ _)
   have hE50 : Ext [] w w45 := by rw [hw46]; exact (hE40.drew).updIn (.inr hnbn) _ _
   have hX51 : Ext [nb] w35 w45 := by rw [hw46]; exact ((Ext.refl _ _).drew).updIn (.inl (by simp)) _ _
   have hG52 : Ext [nb, sb] w1 w45 := hG42.trans hX51 (by simp)
   replace hS := hS.kp [(0, (Pv sb)), (8, .pointer none), (9, I6 0), (10, (Pv nb)), (44, v), (45, I6 ↑ks.length), (46, I6 ↑k), (12, (Pv tk.b)), (55, .bool false)]
   refine hK43 _ _ ?_
   rcases (show fl = true ∨ fl = false by cases fl <;> simp) with hfl | hfl
   
   ·
    subst hfl
    refine rgn 14 ?_
    refine sg wide_wide [.p, .p, .p, .p, .ld (.bool true), .p, .no, .no, .no, .no, .p, .p, .p] [_] [(0, (Pv sb)), (8, .pointer none), (9, I6 0), (10, (Pv nb)), (44, v), (45, I6 ↑ks.length), (46, I6 ↑k), (12, (Pv tk.b)), (55, .bool false), (101, .bool true), (103, (Po nb 12))] 13 1 hS (.cons (hB47.cell 12 rfl) .nil) fun a hS => ?_
    refine eff_store wide_wide (r := 0) (b := nb) (off := 12) (vs := [.bool true]) hS (by kernel_rfl) hB47 (by simp) fun a w53 hw54 hS => ?_
    have hB55 : Blk w53 nb 106 (#[(Pv sb), I6 0, I6 4, I6 0, I6 0, I6 0, I6 0, I6 0, .slice bs ks.length cap, I6 (IntKind.i64.wrap (W + tk.wd)), I6 (IntKind.i64.wrap (L + tk.lf)), I6 (cap5 (TT + tk.tt)), .bool true]) := by rw [hw54]; exact hB47.upd _ _
    have hX58 : Ext [nb] w45 w53 := by rw [hw54]; exact (Ext.refl _ _).updIn (.inl (by simp)) _ _
    have hG59 : Ext [nb, sb] w1 w53 := hG52.trans hX58 (by simp)
    have hE60 : Ext [] w w53 := by rw [hw54]; exact hE50.updIn (.inr hnbn) _ _
    refine seg_end ?_
    refine inBlock_normal ?_
    refine hK19 _ _ ?_
    refine rgn 2 ?_
    refine sg wide_wide [.as (I6 (↑k + 1)), .p] [Value.int .i64 (IntKind.i64.wrap (↑k + 1)) = I6 (↑k + 1)] [(0, (Pv sb)), (8, .pointer none), (9, I6 0), (10, (Pv nb)), (44, v), (45, I6 ↑ks.length), (46, I6 (↑k + 1)), (12, (Pv tk.b)), (55, .bool false)] 2 0 hS (.cons (as_i64 (by omega)) .nil) fun a hS => ?_
    refine seg_end ?_
    refine ⟨(k + 1, IntKind.i64.wrap (W + tk.wd), IntKind.i64.wrap (L + tk.lf), cap5 (TT + tk.tt), true), ⟨hS.keepTo [0, 8, 9, 10, 44, 45, 46] (by kernel_rfl), hB55, by rw [htake]; simpa using hstep, hk, hE60, hEn.trans hG59 (fun b hb => .inl hb), ?_⟩, by simp; omega⟩
    rw [htake]
    intro q hq
    rcases List.mem_append.1 hq with hq | hq
    ·exact hsame q hq
    ·simp at hq; rw [hq]
   ·
    subst hfl
    refine rgn 14 ?_
    refine sg wide_wide [.p, .p, .p, .p, .ld (.bool false), .p, .p, .p, .p, .ld (.bool tk.fl), .p, .p, .p] [_, _] [(0, (Pv sb)), (8, .pointer none), (9, I6 0), (10, (Pv nb)), (44, v), (45, I6 ↑ks.length), (46, I6 ↑k), (12, (Pv tk.b)), (55, .bool false), (101, .bool tk.fl), (103, (Po nb 12))] 13 1 hS (.cons (hB47.cell 12 rfl) (.cons (hB49.cell 12 rfl) .nil)) fun a hS => ?_
    refine eff_store wide_wide (r := 0) (b := nb) (off := 12) (vs := [.bool tk.fl]) hS (by kernel_rfl) hB47 (by simp) fun a w61 hw62 hS => ?_
    have hB63 : Blk w61 nb 106 (#[(Pv sb), I6 0, I6 4, I6 0, I6 0, I6 0, I6 0, I6 0, .slice bs ks.length cap, I6 (IntKind.i64.wrap (W + tk.wd)), I6 (IntKind.i64.wrap (L + tk.lf)), I6 (cap5 (TT + tk.tt)), .bool tk.fl]) := by rw [hw62]; exact hB47.upd _ _
    have hX66 : Ext [nb] w45 w61 := by rw [hw62]; exact (Ext.refl _ _).updIn (.inl (by simp)) _ _
    have hG67 : Ext [nb, sb] w1 w61 := hG52.trans hX66 (by simp)
    have hE68 : Ext [] w w61 := by rw [hw62]; exact hE50.updIn (.inr hnbn) _ _
    refine seg_end ?_
    refine inBlock_normal ?_
    refine hK19 _ _ ?_
    refine rgn 2 ?_
    refine sg wide_wide [.as (I6 (↑k + 1)), .p] [Value.int .i64 (IntKind.i64.wrap (↑k + 1)) = I6 (↑k + 1)] [(0, (Pv sb)), (8, .pointer none), (9, I6 0), (10, (Pv nb)), (44, v), (45, I6 ↑ks.length), (46, I6 (↑k + 1)), (12, (Pv tk.b)), (55, .bool false)] 2 0 hS (.cons (as_i64 (by omega)) .nil) fun a hS => ?_
    refine seg_end ?_
    refine ⟨(k + 1, IntKind.i64.wrap (W + tk.wd), IntKind.i64.wrap (L + tk.lf), cap5 (TT + tk.tt), tk.fl), ⟨hS.keepTo [0, 8, 9, 10, 44, 45, 46] (by kernel_rfl), hB63, by rw [htake]; simpa using hstep, hk, hE68, hEn.trans hG67 (fun b hb => .inl hb), ?_⟩, by simp; omega⟩
    rw [htake]
    intro q hq
    rcases List.mem_append.1 hq with hq | hq
    ·exact hsame q hq
    ·simp at hq; rw [hq]
  ·
   have hs2 : sk ≠ sb := fun h => hs h.symm
   refine rgn 6 ?_
   refine sg wide_wide [.p, .p, .p, .ld ((Pv sk)), .p, .run (.bool true)] [_, Ru Try.prog (vS (do eqGuard .neq 30 (.tmp 53) (.tmp 54) ((Pv sk)) ((Pv sb)); binOp .neq 30 ((Pv sk)) ((Pv sb)))) (.bool true) w1] [(0, (Pv sb)), (8, .pointer none), (9, I6 0), (10, (Pv nb)), (44, v), (45, I6 ↑ks.length), (46, I6 ↑k), (12, (Pv tk.b)), (55, .bool true)] 6 0 hS (.cons (hN.cell 0 rfl) (.cons (bin_ptr_neq (E := 102) (by kernel_rfl) ⟨0, by kernel_rfl⟩ hyB hsb (by simp [hs2])) .nil)) fun a hS => ?_
   refine seg_end ?_
   refine hK22 _ _ ?_
   refine cond_t hS rfl ?_
   refine sq fun K69 hK69 => ?_
   refine rgn 2 ?_
   refine sg wide_wide [.p, .p] [] [(0, (Pv sb)), (8, .pointer none), (9, I6 100), (10, (Pv nb)), (44, v), (45, I6 ↑ks.length), (46, I6 ↑k), (12, (Pv tk.b)), (55, .bool true)] 2 0 hS .nil fun a hS => ?_
   refine seg_end ?_
   refine hK69 _ _ ?_
   refine wpIn_ret ?_
   refine then_ret ?_
   refine inBlock_ret ?_
   refine then_ret ?_
   refine then_ret ?_
   refine inBlock_ret ?_
   refine then_ret ?_
   refine ret2 hS Try.results20 rfl rfl ?_
   exact .inl ⟨⟨_, hmem, hs2⟩, rfl, hEx⟩
 ·
  replace hb18 := of_decide_eq_false hb18
  obtain rfl : k = ks.length := by omega
  rw [List.take_length] at hsum hsame
  refine wpIn_exit ?_
  refine then_exit ?_
  refine then_exit ?_
  refine inBlock_hit ?_
  refine hK14 _ _ ?_
  refine sq fun K70 hK70 => ?_
  refine sq fun K71 hK71 => ?_
  refine rgn 5 ?_
  refine sg wide_wide [.p, .p, .p, .ld (I6 TT), .p] [_] [(0, (Pv sb)), (8, .pointer none), (9, I6 0), (10, (Pv nb)), (44, v), (45, I6 ↑ks.length), (109, .bool (decide ((TT : Int) > 4194304)))] 5 0 hS (.cons (hnb.cell 11 rfl) .nil) fun a hS => ?_
  refine seg_end ?_
  refine hK71 _ _ ?_
  refine cond_b hS rfl (fun hb72 => ?_) (fun hb72 => ?_)
  ·
   replace hb72 := of_decide_eq_true hb72
   have htt2 : TT = cap5 (1 + sumT (kt ks)) := hsum.tt
   have hover : 4194304 < 1 + sumT (kt ks) := by
    unfold cap5 at htt2
    split at htt2 <;> omega
   refine sq fun K73 hK73 => ?_
   refine rgn 2 ?_
   refine sg wide_wide [.p, .p] [] [(0, (Pv sb)), (8, .pointer none), (9, I6 6), (10, (Pv nb)), (44, v), (45, I6 ↑ks.length)] 2 0 hS .nil fun a hS => ?_
   refine seg_end ?_
   refine hK73 _ _ ?_
   refine wpIn_ret ?_
   refine then_ret ?_
   refine ret2 hS Try.results20 rfl rfl ?_
   exact .inr (.inl ⟨hsame, hover, rfl, hEx⟩)
  ·
   replace hb72 := of_decide_eq_false hb72
   have htt2 : TT = cap5 (1 + sumT (kt ks)) := hsum.tt
   have hroom : 1 + sumT (kt ks) ≤ 4194304 := by
    unfold cap5 at htt2
    split at htt2 <;> omega
   have htt3 : TT = 1 + sumT (kt ks) := by
    rw [htt2]; unfold cap5; rw [if_neg (by omega)]
   have hEs : Ext [sb] w w1 := hEx.of0
   refine wpIn_skip ?_
   refine hK70 _ _ ?_
   refine sq fun K74 hK74 => ?_
   refine rgn 8 ?_
   refine sg wide_wide [.p, .p, .p, .p] [] [(0, (Pv sb)), (8, .pointer none), (9, I6 0), (10, (Pv nb)), (44, v), (45, I6 ↑ks.length), (110, (Pv nb)), (113, (Pv sb))] 4 4 hS .nil fun a hS => ?_
   refine eff_call wide_wide (r := 3) (f := 52) (vs := [(Pv sb), I6 1]) (cap := #[]) (d := (some 114)) hS (by kernel_rfl) Try.call52 #[(Pv sb), I6 1] (by kernel_rfl) (Add_any hsb hx) ?_
   rintro _ wA ⟨rfl, hw75⟩
   refine ⟨_, rfl, fun a hS => ?_⟩
   have hB76 := Blk.at' hw75 (hnb.updNe (Blk.ne_type hsb hnb (by decide)) _ _)
   have hB77 : Blk wA sb 102 (#[I6 (x + 1)]) := by rw [hw75]; exact hsb.upd _ _
   have hX78 : Ext [sb] w1 wA := by rw [hw75]; exact (Ext.refl _ _).updIn (.inl (by simp)) _ _
   have hG79 : Ext [nb, sb] w1 wA := hEn0.trans hX78 (by simp)
   have hE80 : Ext [sb] w wA := by rw [hw75]; exact hEs.updIn (.inl (by simp)) _ _
   refine sg wide_wide [.p, .p] [] [(0, (Pv sb)), (8, .pointer none), (9, I6 0), (10, (Pv nb)), (44, v), (45, I6 ↑ks.length), (114, I6 (x + 1)), (116, (Po nb 1))] 7 1 hS .nil fun a hS => ?_
   refine eff_store wide_wide (r := 0) (b := nb) (off := 1) (vs := [I6 (x + 1)]) hS (by kernel_rfl) hB76 (by simp) fun a w81 hw82 hS => ?_
   have hB83 : Blk w81 nb 106 (#[(Pv sb), I6 (x + 1), I6 4, I6 0, I6 0, I6 0, I6 0, I6 0, .slice bs ks.length cap, I6 W, I6 L, I6 TT, .bool fl]) := by rw [hw82]; exact hB76.upd _ _
   have hB84 := Blk.at' hw82 (hB77.updNe (Ne.symm (Blk.ne_type hsb hnb (by decide))) _ _)
   have hX85 : Ext [nb] wA w81 := by rw [hw82]; exact (Ext.refl _ _).updIn (.inl (by simp)) _ _
   have hG86 : Ext [nb, sb] w1 w81 := hG79.trans hX85 (by simp)
   have hE87 : Ext [sb] w w81 := by rw [hw82]; exact hE80.updIn (.inr hnbn) _ _
   refine seg_end ?_
   refine hK74 _ _ ?_
   refine sq fun K88 hK88 => ?_
   refine rgn 3 ?_
   refine sg wide_wide [.p, .p, .p] [] [(0, (Pv sb)), (8, (Pv nb)), (9, I6 0), (10, (Pv nb)), (44, v), (45, I6 ↑ks.length)] 3 0 hS .nil fun a hS => ?_
   refine seg_end ?_
   refine hK88 _ _ ?_
   refine wpIn_ret ?_
   refine ret2 hS Try.results20 rfl rfl ?_
   exact by
    have hnm : ∀ b ∈ ob (.slice bs ks.length cap), b ∉ [nb, sb] := fun b hb hm => by
     have hm : b = nb ∨ b = sb := by simpa using hm
     rcases hm with rfl | rfl
     ·exact hvs1.2 _ hb rfl
     ·have := hnvs _ hb; have := hB.lt; omega
    have hE9 : Ext [nb, sb] w1 w81 := hG86
    have hvs9 : OwnV w81 47 1 (.slice bs ks.length cap) ks.length (ks.map fun q => q.2.ptr) := (hvs1.1.ext hEn hnm).ext hE9 hnm
    obtain ⟨hW, hL⟩ := hsum.wl hroom
    have hok9 : ∀ q ∈ ks, q.2.Ok w81 sb := fun q hq => by
     have h1 := (hks q hq).1
     rw [hsame q hq] at h1
     exact h1.ext hE87 q.2 (fun b hb => by simp at hb; subst hb; exact h1.not_foot hB (by decide) (by decide))
    refine .inr (.inr ⟨hsame, hroom, nb, _, rfl, hnbn, hnvs, (Tr.ok_iff _).2 ⟨⟨?_, ?_, ?_, ?_, hroom, by simp [Tr.kd, Tr.nn]⟩, ?_⟩, hB84, hE87⟩)
    ·have h9 := hB83
     rw [hW, hL, htt3, hsum.fl] at h9
     exact h9
    ·simpa [Tr.ks, Tr.kids, kt, Function.comp_def] using hvs9
    ·intro h; simp [Tr.kd] at h
    ·intro _; simp [Tr.kd, Tr.nn, Tr.lk, Tr.ls, Tr.ll, Tr.lr, Tr.wd, Tr.lf, Tr.tt, Tr.fl, Tr.kids]
    ·exact oks_iff.2 fun t ht => by
      simp only [Tr.kids, kt, List.mem_map] at ht
      obtain ⟨q, hq, rfl⟩ := ht
      exact hok9 q hq

set_option maxHeartbeats 1000000 in
theorem Make_5 {sb : Nat} {x : Int} {v : Value} {ks : List (Nat × Tr)} {w : World} (hB : Blk w sb 102 #[I6 x]) (hx : 0 ≤ x ∧ x < 4611686018427387904) (hv : OwnV w 47 1 v ks.length (ks.map fun q => q.2.ptr)) (hks : ∀ q ∈ ks, q.2.Ok w q.1 ∧ ∃ y, Blk w q.1 102 #[I6 y]) (hlen : ks.length ≤ 17592186044416) :
  Calls Try.prog 20 #[(Pv sb), I6 5, I6 0, v] w fun e w' => MakeOut w sb x 5 0 ks e w' := by
 refine calls_body 118 [(0, (Pv sb)), (1, I6 5), (2, I6 0), (3, v)] Try.func20 rfl (by kernel_rfl) (by kernel_rfl) (by kernel_rfl) fun a hS => ?_
 have hE0 : Ext [] w w := Ext.refl _ _
 refine sq fun K1 hK1 => ?_
 refine rgn 2 ?_
 refine sg wide_wide [.p, .p] [] [(0, (Pv sb)), (1, I6 5), (2, I6 0), (3, v), (8, .pointer none), (9, I6 0)] 2 0 hS .nil fun a hS => ?_
 refine seg_end ?_
 refine hK1 _ _ ?_
 refine sq fun K2 hK2 => ?_
 refine sq fun K3 hK3 => ?_
 refine rgn 18 ?_
 refine sg wide_wide [.p, .p, .p, .p, .p, .p, .p, .p, .p, .p, .p, .p, .p, .p, .no, .no, .p, .p] [] [(0, (Pv sb)), (1, I6 5), (2, I6 0), (3, v), (8, .pointer none), (9, I6 0), (30, .bool false)] 18 0 hS .nil fun a hS => ?_
 refine seg_end ?_
 refine hK3 _ _ ?_
 refine cond_f hS rfl ?_
 refine wpIn_skip ?_
 refine hK2 _ _ ?_
 refine sq fun K4 hK4 => ?_
 refine rgn 14 ?_
 refine sg wide_wide [.p, .p, .p, .p] [] [(0, (Pv sb)), (1, I6 5), (2, I6 0), (3, v), (8, .pointer none), (9, I6 0), (30, .bool false), (31, (Pv sb)), (32, I6 5), (33, I6 0), (34, v)] 4 10 hS .nil fun a hS => ?_
 have hv5 := hv.ext hE0 (by simp)
 refine eff_call wide_wide (r := 9) (f := 54) (vs := [v]) (cap := #[]) (d := (some 35)) hS (by kernel_rfl) Try.call54 #[v] (by kernel_rfl) (Clone_ks hv5 (by omega)) ?_
 rintro _ wc ⟨bs, cap, rfl, hvs, hEc, hnvs⟩
 refine ⟨_, rfl, fun a hS => ?_⟩
 have hEc0 : Ext [] w wc := hE0.trans0 hEc
 replace hnvs : ∀ b ∈ ob (.slice bs ks.length cap), w.heap.size ≤ b := fun b hb => Nat.le_trans hE0.size (hnvs b hb)
 refine sg wide_wide [.p, .p, .p, .p, .p, .p, .p] [] [(0, (Pv sb)), (1, I6 5), (2, I6 0), (3, v), (8, .pointer none), (9, I6 0), (30, .bool false), (42, .agg #[(Pv sb), I6 0, I6 5, I6 0, I6 0, I6 0, I6 0, I6 0, .slice bs ks.length cap, I6 0, I6 0, I6 1, .bool true])] 12 2 hS .nil fun a hS => ?_
 refine eff_box wide_wide (r := 1) (cs := #[(Pv sb), I6 0, I6 5, I6 0, I6 0, I6 0, I6 0, I6 0, .slice bs ks.length cap, I6 0, I6 0, I6 1, .bool true]) (T := 106) (d := (some 43)) hS (by kernel_rfl) fun a w7 hw8 hS => ?_
 have hB11 : Blk w7 (wc.heap.size) 106 #[(Pv sb), I6 0, I6 5, I6 0, I6 0, I6 0, I6 0, I6 0, .slice bs ks.length cap, I6 0, I6 0, I6 1, .bool true] := by rw [hw8]; exact Blk.new _ _ _
 have hs12 : w.heap.size ≤ wc.heap.size := hEc0.size
 have hE13 : Ext [] w w7 := by rw [hw8]; exact hEc0.alloc _
 refine sg wide_wide [.p] [] [(0, (Pv sb)), (1, I6 5), (2, I6 0), (3, v), (8, .pointer none), (9, I6 0), (30, .bool false), (10, (Pv wc.heap.size))] 14 0 hS .nil fun a hS => ?_
 refine seg_end ?_
 refine hK4 _ _ ?_
 refine sq fun K14 hK14 => ?_
 refine sq fun K15 hK15 => ?_
 refine rgn 3 ?_
 refine sg wide_wide [.p, .run (I6 ↑ks.length), .p] [Ru Try.prog (vS (Builtin.len_ #[32] 3 #[v])) (I6 ↑ks.length) w7] [(0, (Pv sb)), (1, I6 5), (2, I6 0), (3, v), (8, .pointer none), (9, I6 0), (30, .bool false), (10, (Pv wc.heap.size)), (44, v), (45, I6 ↑ks.length), (46, I6 0)] 3 0 hS (.cons (run_len_own hv (by kernel_rfl)) .nil) fun a hS => ?_
 refine seg_end ?_
 refine hK15 _ _ ?_
 refine wpIn_block ?_
 have hvs1 := hvs.ext (by rw [hw8]; exact (Ext.refl _ _).alloc _ : Ext [] wc w7) (by simp)
 have hnbv : ∀ b ∈ ob (.slice bs ks.length cap), b ≠ wc.heap.size := fun b hb => Nat.ne_of_lt (hvs.lie b hb)
 have hnbn := hs12
 have hnb0 := hB11
 have hsz0 : wc.heap.size < w7.heap.size := hB11.lt
 have hE1 := hE13
 generalize hgnb : wc.heap.size = nb at hS hnbv hnbn hnb0 hsz0
 replace hvs1 : OwnV w7 47 1 (.slice bs ks.length cap) ks.length (ks.map fun q => q.2.ptr) ∧ ∀ b ∈ ob (.slice bs ks.length cap), b ≠ nb := ⟨hvs1, hnbv⟩
 refine loop_ghost (fun ((k, W, L, TT, fl) : Nat × Int × Int × Int × Bool) a' w' => St 118 [] [(0, (Pv sb)), (8, .pointer none), (9, I6 0), (10, (Pv nb)), (44, v), (45, I6 ↑ks.length), (46, I6 ↑k)] a' ∧ Blk w' nb 106 #[(Pv sb), I6 0, I6 5, I6 0, I6 0, I6 0, I6 0, I6 0, .slice bs ks.length cap, I6 W, I6 L, I6 TT, .bool fl] ∧ Sums true (ks.take k) W L TT fl ∧ k ≤ ks.length ∧ Ext [] w w' ∧ Ext [nb, sb] w7 w' ∧ ∀ q ∈ ks.take k, q.1 = sb) (fun ((k, W, L, TT, fl) : Nat × Int × Int × Int × Bool) => ks.length - k) (0, 0, 0, 1, true) ⟨hS.keepTo [0, 8, 9, 10, 44, 45, 46] (by kernel_rfl), hnb0, ⟨by simp [kt, sumT, cap5], by simp [kt, sumW, sumL], by simp [kt, anyF]⟩, Nat.zero_le _, hE1, Ext.refl _ _, by simp⟩ ?_
 rintro ⟨k, W, L, TT, fl⟩ a w1 ⟨hS, hnb, hsum, hkl, hEx, hEn, hsame⟩
 have hEn0 : Ext [nb, sb] w1 w1 := Ext.refl _ _
 have hsb := hB.ext hEx (by simp)
 have hallk : ∀ q ∈ ks.take k, q.2.Ok w q.1 := fun q hq => (hks q (List.mem_of_mem_take hq)).1
 have hbd := hsum.bd hallk
 refine sq fun K16 hK16 => ?_
 refine rgn 1 ?_
 refine sg wide_wide [.p] [] [(0, (Pv sb)), (8, .pointer none), (9, I6 0), (10, (Pv nb)), (44, v), (45, I6 ↑ks.length), (46, I6 ↑k), (47, .bool (decide ((↑k : Int) < ↑ks.length)))] 1 0 hS .nil fun a hS => ?_
 refine seg_end ?_
 refine hK16 _ _ ?_
 refine sq fun K17 hK17 => ?_
 refine cond_b hS rfl (fun hb18 => ?_) (fun hb18 => ?_)
 ·
  replace hb18 := of_decide_eq_true hb18
  have hk : k < ks.length := by omega
  obtain ⟨sk, tk, htk⟩ : ∃ sk tk, ks[k] = (sk, tk) := ⟨_, _, rfl⟩
  have hmem : (sk, tk) ∈ ks := htk ▸ List.getElem_mem hk
  obtain ⟨hok0, y, hyB0⟩ : tk.Ok w sk ∧ ∃ y, Blk w sk 102 #[I6 y] := hks _ hmem
  have hok := hok0.ext hEx _ (by simp)
  have hyB := hyB0.ext hEx (by simp)
  have hN : Blk w1 tk.b 106 #[(Pv sk), I6 tk.num, I6 tk.kd, I6 tk.nn, I6 tk.lk, I6 tk.ls, I6 tk.ll, I6 tk.lr, tk.ks, I6 tk.wd, I6 tk.lf, I6 tk.tt, .bool tk.fl] := hok.blk
  have htake : ks.take (k + 1) = ks.take k ++ [(sk, tk)] := by rw [List.take_succ_eq_append_getElem hk, htk]
  have hstep := hsum.step hallk hok0
  have hnt : tk.b ≠ nb := Nat.ne_of_lt (Nat.lt_of_lt_of_le hok0.blk.lt hnbn)
  have htp := Tr.Ok.tt_pos tk hok0
  have hmx := hok0.nums.max
  have hcell : w1.cell? ⟨bof v, 0 + k * 1, none⟩ = some tk.ptr := by
   rw [show 0 + k * 1 = k by omega]
   exact (hv.ext hEx (by simp)).cellAt k (by simp [hk, htk])
  refine wpIn_skip ?_
  refine hK17 _ _ ?_
  refine sq fun K19 hK19 => ?_
  refine wpIn_block ?_
  refine sq fun K20 hK20 => ?_
  refine rgn 3 ?_
  refine sg wide_wide [.run ((Po (bof v) (0 + k * 1))), .ld ((Pv tk.b)), .p] [Ru Try.prog (vS (Instr.indexAt 32 (v) (I6 ↑k))) ((Po (bof v) (0 + k * 1))) w1, w1.cell? ⟨bof v, 0 + k * 1, none⟩ = some ((Pv tk.b))] [(0, (Pv sb)), (8, .pointer none), (9, I6 0), (10, (Pv nb)), (44, v), (45, I6 ↑ks.length), (46, I6 ↑k), (12, (Pv tk.b))] 3 0 hS (.cons (ix_own (j := k) hv (by kernel_rfl) (by kernel_rfl) rfl hk) (.cons (hcell) .nil)) fun a hS => ?_
  refine seg_end ?_
  refine hK20 _ _ ?_
  refine sq fun K21 hK21 => ?_
  refine sq fun K22 hK22 => ?_
  by_cases hs : sb = sk
  ·
   subst hs
   refine rgn 6 ?_
   refine sg wide_wide [.p, .p, .p, .ld ((Pv sb)), .p, .run (.bool false)] [_, Ru Try.prog (vS (do eqGuard .neq 30 (.tmp 53) (.tmp 54) ((Pv sb)) ((Pv sb)); binOp .neq 30 ((Pv sb)) ((Pv sb)))) (.bool false) w1] [(0, (Pv sb)), (8, .pointer none), (9, I6 0), (10, (Pv nb)), (44, v), (45, I6 ↑ks.length), (46, I6 ↑k), (12, (Pv tk.b)), (55, .bool false)] 6 0 hS (.cons (hN.cell 0 rfl) (.cons (bin_ptr_neq (E := 102) (by kernel_rfl) ⟨0, by kernel_rfl⟩ hsb hsb (by simp)) .nil)) fun a hS => ?_
   refine seg_end ?_
   refine hK22 _ _ ?_
   refine cond_f hS rfl ?_
   refine wpIn_skip ?_
   refine hK21 _ _ ?_
   refine sq fun K23 hK23 => ?_
   refine region_fn2 wide_wide [.q .p, .q .p, .q .p, .q (.ld (I6 W)), .q .p, .q .p, .q .p, .q (.ld (I6 tk.wd)), .q .p, .q .p, .q .p, .e] [0, 0, 0, 0, 0, 0, 0, 0, 0, 0, 0, 0] [0, 0, 0, 0, 0, 0, 0, 0, 0, 0, 0, 0] [0, 1, 3, 7, 0, 16, 48, 112, 255, 511, 1023, 2047] [11] 1 ([(0, (Pv sb)), (8, .pointer none), (9, I6 0), (10, (Pv nb)), (44, v), (45, I6 ↑ks.length), (46, I6 ↑k), (12, (Pv tk.b)), (55, .bool false), (56, (Pv nb)), (57, (Pv nb)), (58, (Po nb 9)), (59, I6 W), (60, (Pv tk.b)), (61, (Pv tk.b)), (62, (Po tk.b 9)), (63, I6 tk.wd), (64, I6 (IntKind.i64.wrap (W + tk.wd))), (65, (Pv nb)), (66, (Po nb 9))]) [w1.drew, upd (w1.drew) (nb) 106 #[(Pv sb), I6 0, I6 5, I6 0, I6 0, I6 0, I6 0, I6 0, .slice bs ks.length cap, I6 (IntKind.i64.wrap (W + tk.wd)), I6 L, I6 TT, .bool fl]] w1.drew (fun w' => [(3, [w'.cell? ⟨nb, 9, none⟩ = some (I6 W)]), (7, [w'.cell? ⟨tk.b, 9, none⟩ = some (I6 tk.wd)])]) [0, 8, 9, 10, 44, 45, 46, 12, 55] [] hS (by kernel_rfl) (by kernel_rfl) (by kernel_rfl) (by kernel_rfl) (fun _ => by kernel_rfl) (by kernel_rfl) (by kernel_rfl) (by kernel_rfl) ?_ ?_ ?_
   ·intro e w' hw
    refine (.cons ?_ (.cons ?_ .nil))
    ·intro h1 h2
     obtain rfl : e = 0 := Nat.le_antisymm h2 h1
     obtain rfl : w' = w1.drew := hw.trans (by kernel_rfl)
     exact (.cons ((hnb.drew : Blk w1.drew nb 106 (#[(Pv sb), I6 0, I6 5, I6 0, I6 0, I6 0, I6 0, I6 0, .slice bs ks.length cap, I6 W, I6 L, I6 TT, .bool fl])).cell 9 rfl) .nil)
    ·intro h1 h2
     obtain rfl : e = 0 := Nat.le_antisymm h2 h1
     obtain rfl : w' = w1.drew := hw.trans (by kernel_rfl)
     exact (.cons ((hN.drew : Blk w1.drew tk.b 106 (#[(Pv sb), I6 tk.num, I6 tk.kd, I6 tk.nn, I6 tk.lk, I6 tk.ls, I6 tk.ll, I6 tk.lr, tk.ks, I6 tk.wd, I6 tk.lf, I6 tk.tt, .bool tk.fl])).cell 9 rfl) .nil)
   ·refine (.cons ?eq24_11 .nil)
    ·refine eff_at (w1.drew) (upd (w1.drew) (nb) 106 #[(Pv sb), I6 0, I6 5, I6 0, I6 0, I6 0, I6 0, I6 0, .slice bs ks.length cap, I6 (IntKind.i64.wrap (W + tk.wd)), I6 L, I6 TT, .bool fl]) (by kernel_rfl) (by kernel_rfl) ?_
     exact upon_store (b := nb) (off := 9) (vs := [I6 (IntKind.i64.wrap (W + tk.wd))]) (by kernel_rfl) (hnb.drew : Blk w1.drew nb 106 (#[(Pv sb), I6 0, I6 5, I6 0, I6 0, I6 0, I6 0, I6 0, .slice bs ks.length cap, I6 W, I6 L, I6 TT, .bool fl])) (by simp) ⟨by kernel_rfl, by kernel_rfl⟩
   rintro a w25 hS hw26
   replace hw26 : w25 = upd (w1.drew) (nb) 106 #[(Pv sb), I6 0, I6 5, I6 0, I6 0, I6 0, I6 0, I6 0, .slice bs ks.length cap, I6 (IntKind.i64.wrap (W + tk.wd)), I6 L, I6 TT, .bool fl] := hw26.trans (by kernel_rfl)
   have hB27 : Blk w25 nb 106 (#[(Pv sb), I6 0, I6 5, I6 0, I6 0, I6 0, I6 0, I6 0, .slice bs ks.length cap, I6 (IntKind.i64.wrap (W + tk.wd)), I6 L, I6 TT, .bool fl]) := by rw [hw26]; exact (hnb.drew).upd _ _
   have hB29 := Blk.at' hw26 ((hN.drew).updNe (Ne.symm hnt) _ _)
   have hE30 : Ext [] w w25 := by rw [hw26]; exact (hEx.drew).updIn (.inr hnbn) _ _
   have hX31 : Ext [nb] w1 w25 := by rw [hw26]; exact ((Ext.refl _ _).drew).updIn (.inl (by simp)) _ _
   have hG32 : Ext [nb, sb] w1 w25 := hEn0.trans hX31 (by simp)
   replace hS := hS.kp [(0, (Pv sb)), (8, .pointer none), (9, I6 0), (10, (Pv nb)), (44, v), (45, I6 ↑ks.length), (46, I6 ↑k), (12, (Pv tk.b)), (55, .bool false)]
   refine hK23 _ _ ?_
   refine sq fun K33 hK33 => ?_
   refine region_fn2 wide_wide [.q .p, .q .p, .q .p, .q (.ld (I6 L)), .q .p, .q .p, .q .p, .q (.ld (I6 tk.lf)), .q .p, .q .p, .q .p, .e] [0, 0, 0, 0, 0, 0, 0, 0, 0, 0, 0, 0] [0, 0, 0, 0, 0, 0, 0, 0, 0, 0, 0, 0] [0, 1, 3, 7, 0, 16, 48, 112, 255, 511, 1023, 2047] [11] 1 ([(0, (Pv sb)), (8, .pointer none), (9, I6 0), (10, (Pv nb)), (44, v), (45, I6 ↑ks.length), (46, I6 ↑k), (12, (Pv tk.b)), (55, .bool false), (67, (Pv nb)), (68, (Pv nb)), (69, (Po nb 10)), (70, I6 L), (71, (Pv tk.b)), (72, (Pv tk.b)), (73, (Po tk.b 10)), (74, I6 tk.lf), (75, I6 (IntKind.i64.wrap (L + tk.lf))), (76, (Pv nb)), (77, (Po nb 10))]) [w25.drew, upd (w25.drew) (nb) 106 #[(Pv sb), I6 0, I6 5, I6 0, I6 0, I6 0, I6 0, I6 0, .slice bs ks.length cap, I6 (IntKind.i64.wrap (W + tk.wd)), I6 (IntKind.i64.wrap (L + tk.lf)), I6 TT, .bool fl]] w25.drew (fun w' => [(3, [w'.cell? ⟨nb, 10, none⟩ = some (I6 L)]), (7, [w'.cell? ⟨tk.b, 10, none⟩ = some (I6 tk.lf)])]) [0, 8, 9, 10, 44, 45, 46, 12, 55] [] hS (by kernel_rfl) (by kernel_rfl) (by kernel_rfl) (by kernel_rfl) (fun _ => by kernel_rfl) (by kernel_rfl) (by kernel_rfl) (by kernel_rfl) ?_ ?_ ?_
   ·intro e w' hw
    refine (.cons ?_ (.cons ?_ .nil))
    ·intro h1 h2
     obtain rfl : e = 0 := Nat.le_antisymm h2 h1
     obtain rfl : w' = w25.drew := hw.trans (by kernel_rfl)
     exact (.cons ((hB27.drew : Blk w25.drew nb 106 (#[(Pv sb), I6 0, I6 5, I6 0, I6 0, I6 0, I6 0, I6 0, .slice bs ks.length cap, I6 (IntKind.i64.wrap (W + tk.wd)), I6 L, I6 TT, .bool fl])).cell 10 rfl) .nil)
    ·intro h1 h2
     obtain rfl : e = 0 := Nat.le_antisymm h2 h1
     obtain rfl : w' = w25.drew := hw.trans (by kernel_rfl)
     exact (.cons ((hB29.drew : Blk w25.drew tk.b 106 (#[(Pv sb), I6 tk.num, I6 tk.kd, I6 tk.nn, I6 tk.lk, I6 tk.ls, I6 tk.ll, I6 tk.lr, tk.ks, I6 tk.wd, I6 tk.lf, I6 tk.tt, .bool tk.fl])).cell 10 rfl) .nil)
   ·refine (.cons ?eq34_11 .nil)
    ·refine eff_at (w25.drew) (upd (w25.drew) (nb) 106 #[(Pv sb), I6 0, I6 5, I6 0, I6 0, I6 0, I6 0, I6 0, .slice bs ks.length cap, I6 (IntKind.i64.wrap (W + tk.wd)), I6 (IntKind.i64.wrap (L + tk.lf)), I6 TT, .bool fl]) (by kernel_rfl) (by kernel_rfl) ?_
     exact upon_store (b := nb) (off := 10) (vs := [I6 (IntKind.i64.wrap (L + tk.lf))]) (by kernel_rfl) (hB27.drew : Blk w25.drew nb 106 (#[(Pv sb), I6 0, I6 5, I6 0, I6 0, I6 0, I6 0, I6 0, .slice bs ks.length cap, I6 (IntKind.i64.wrap (W + tk.wd)), I6 L, I6 TT, .bool fl])) (by simp) ⟨by kernel_rfl, by kernel_rfl⟩
   rintro a w35 hS hw36
   replace hw36 : w35 = upd (w25.drew) (nb) 106 #[(Pv sb), I6 0, I6 5, I6 0, I6 0, I6 0, I6 0, I6 0, .slice bs ks.length cap, I6 (IntKind.i64.wrap (W + tk.wd)), I6 (IntKind.i64.wrap (L + tk.lf)), I6 TT, .bool fl] := hw36.trans (by kernel_rfl)
   have hB37 : Blk w35 nb 106 (#[(Pv sb), I6 0, I6 5, I6 0, I6 0, I6 0, I6 0, I6 0, .slice bs ks.length cap, I6 (IntKind.i64.wrap (W + tk.wd)), I6 (IntKind.i64.wrap (L + tk.lf)), I6 TT, .bool fl]) := by rw [hw36]; exact (hB27.drew).upd _ _
   have hB39 := Blk.at' hw36 ((hB29.drew).updNe (Ne.symm hnt) _ _)
   have hE40 : Ext [] w w35 := by rw [hw36]; exact (hE30.drew).updIn (.inr hnbn) _ _
   have hX41 : Ext [nb] w25 w35 := by rw [hw36]; exact ((Ext.refl _ _).drew).updIn (.inl (by simp)) _ _
   have hG42 : Ext [nb, sb] w1 w35 := hG32.trans hX41 (by simp)
   replace hS := hS.kp [(0, (Pv sb)), (8, .pointer none), (9, I6 0), (10, (Pv nb)), (44, v), (45, I6 ↑ks.length), (46, I6 ↑k), (12, (Pv tk.b)), (55, .bool false)]
   refine hK33 _ _ ?_
   refine sq fun K43 hK43 => ?_
   refine region_fn2 wide_wide [.q .p, .q .p, .q .p, .q .p, .q (.ld (I6 TT)), .q .p, .q .p, .q .p, .q (.ld (I6 tk.tt)), .q (.as (I6 (TT + tk.tt))), .q (.as (I6 (cap5 (TT + tk.tt)))), .q .p, .q .p, .e] [0, 0, 0, 0, 0, 0, 0, 0, 0, 0, 0, 0, 0, 0] [0, 0, 0, 0, 0, 0, 0, 0, 0, 0, 0, 0, 0, 0] [0, 0, 2, 6, 14, 0, 32, 96, 224, 510, 1022, 2047, 4095, 8191] [13] 1 ([(0, (Pv sb)), (8, .pointer none), (9, I6 0), (10, (Pv nb)), (44, v), (45, I6 ↑ks.length), (46, I6 ↑k), (12, (Pv tk.b)), (55, .bool false), (78, (Pv nb)), (79, (Pv nb)), (80, (Pv nb)), (81, (Po nb 11)), (82, I6 TT), (83, (Pv tk.b)), (84, (Pv tk.b)), (85, (Po tk.b 11)), (86, I6 tk.tt), (87, I6 (TT + tk.tt)), (88, I6 (cap5 (TT + tk.tt))), (89, (Pv nb)), (90, (Po nb 11))]) [w35.drew, upd (w35.drew) (nb) 106 #[(Pv sb), I6 0, I6 5, I6 0, I6 0, I6 0, I6 0, I6 0, .slice bs ks.length cap, I6 (IntKind.i64.wrap (W + tk.wd)), I6 (IntKind.i64.wrap (L + tk.lf)), I6 (cap5 (TT + tk.tt)), .bool fl]] w35.drew (fun w' => [(4, [w'.cell? ⟨nb, 11, none⟩ = some (I6 TT)]), (8, [w'.cell? ⟨tk.b, 11, none⟩ = some (I6 tk.tt)]), (9, [Value.int .i64 (IntKind.i64.wrap (TT + tk.tt)) = I6 (TT + tk.tt)]), (10, [Value.int .i64 (if (4194305 : Int) < TT + tk.tt then 4194305 else TT + tk.tt) = I6 (cap5 (TT + tk.tt))])]) [0, 8, 9, 10, 44, 45, 46, 12, 55] [] hS (by kernel_rfl) (by kernel_rfl) (by kernel_rfl) (by kernel_rfl) (fun _ => by kernel_rfl) (by kernel_rfl) (by kernel_rfl) (by kernel_rfl) ?_ ?_ ?_
   ·intro e w' hw
    refine (.cons ?_ (.cons ?_ (.cons ?_ (.cons ?_ .nil))))
    ·intro h1 h2
     obtain rfl : e = 0 := Nat.le_antisymm h2 h1
     obtain rfl : w' = w35.drew := hw.trans (by kernel_rfl)
     exact (.cons ((hB37.drew : Blk w35.drew nb 106 (#[(Pv sb), I6 0, I6 5, I6 0, I6 0, I6 0, I6 0, I6 0, .slice bs ks.length cap, I6 (IntKind.i64.wrap (W + tk.wd)), I6 (IntKind.i64.wrap (L + tk.lf)), I6 TT, .bool fl])).cell 11 rfl) .nil)
    ·intro h1 h2
     obtain rfl : e = 0 := Nat.le_antisymm h2 h1
     obtain rfl : w' = w35.drew := hw.trans (by kernel_rfl)
     exact (.cons ((hB39.drew : Blk w35.drew tk.b 106 (#[(Pv sb), I6 tk.num, I6 tk.kd, I6 tk.nn, I6 tk.lk, I6 tk.ls, I6 tk.ll, I6 tk.lr, tk.ks, I6 tk.wd, I6 tk.lf, I6 tk.tt, .bool tk.fl])).cell 11 rfl) .nil)
    ·exact fun _ _ => (.cons (as_i64 (by omega)) .nil)
    ·exact fun _ _ => (.cons (rfl) .nil)
   ·refine (.cons ?eq44_13 .nil)
    ·refine eff_at (w35.drew) (upd (w35.drew) (nb) 106 #[(Pv sb), I6 0, I6 5, I6 0, I6 0, I6 0, I6 0, I6 0, .slice bs ks.length cap, I6 (IntKind.i64.wrap (W + tk.wd)), I6 (IntKind.i64.wrap (L + tk.lf)), I6 (cap5 (TT + tk.tt)), .bool fl]) (by kernel_rfl) (by kernel_rfl) ?_
     exact upon_store (b := nb) (off := 11) (vs := [I6 (cap5 (TT + tk.tt))]) (by kernel_rfl) (hB37.drew : Blk w35.drew nb 106 (#[(Pv sb), I6 0, I6 5, I6 0, I6 0, I6 0, I6 0, I6 0, .slice bs ks.length cap, I6 (IntKind.i64.wrap (W + tk.wd)), I6 (IntKind.i64.wrap (L + tk.lf)), I6 TT, .bool fl])) (by simp) ⟨by kernel_rfl, by kernel_rfl⟩
   rintro a w45 hS hw46
   replace hw46 : w45 = upd (w35.drew) (nb) 106 #[(Pv sb), I6 0, I6 5, I6 0, I6 0, I6 0, I6 0, I6 0, .slice bs ks.length cap, I6 (IntKind.i64.wrap (W + tk.wd)), I6 (IntKind.i64.wrap (L + tk.lf)), I6 (cap5 (TT + tk.tt)), .bool fl] := hw46.trans (by kernel_rfl)
   have hB47 : Blk w45 nb 106 (#[(Pv sb), I6 0, I6 5, I6 0, I6 0, I6 0, I6 0, I6 0, .slice bs ks.length cap, I6 (IntKind.i64.wrap (W + tk.wd)), I6 (IntKind.i64.wrap (L + tk.lf)), I6 (cap5 (TT + tk.tt)), .bool fl]) := by rw [hw46]; exact (hB37.drew).upd _ _
   have hB49 := Blk.at' hw46 ((hB39.drew).updNe (Ne.symm hnt) _ _)
   have hE50 : Ext [] w w45 := by rw [hw46]; exact (hE40.drew).updIn (.inr hnbn) _ _
   have hX51 : Ext [nb] w35 w45 := by rw [hw46]; exact ((Ext.refl _ _).drew).updIn (.inl (by simp)) _ _
   have hG52 : Ext [nb, sb] w1 w45 := hG42.trans hX51 (by simp)
   replace hS := hS.kp [(0, (Pv sb)), (8, .pointer none), (9, I6 0), (10, (Pv nb)), (44, v), (45, I6 ↑ks.length), (46, I6 ↑k), (12, (Pv tk.b)), (55, .bool false)]
   refine hK43 _ _ ?_
   rcases (show fl = true ∨ fl = false by cases fl <;> simp) with hfl | hfl
   
   ·
    subst hfl
    refine rgn 14 ?_
    refine sg wide_wide [.p, .p, .p, .p, .ld (.bool true), .p, .no, .no, .no, .no, .p, .p, .p] [_] [(0, (Pv sb)), (8, .pointer none), (9, I6 0), (10, (Pv nb)), (44, v), (45, I6 ↑ks.length), (46, I6 ↑k), (12, (Pv tk.b)), (55, .bool false), (101, .bool true), (103, (Po nb 12))] 13 1 hS (.cons (hB47.cell 12 rfl) .nil) fun a hS => ?_
    refine eff_store wide_wide (r := 0) (b := nb) (off := 12) (vs := [.bool true]) hS (by kernel_rfl) hB47 (by simp) fun a w53 hw54 hS => ?_
    have hB55 : Blk w53 nb 106 (#[(Pv sb), I6 0, I6 5, I6 0, I6 0, I6 0, I6 0, I6 0, .slice bs ks.length cap, I6 (IntKind.i64.wrap (W + tk.wd)), I6 (IntKind.i64.wrap (L + tk.lf)), I6 (cap5 (TT + tk.tt)), .bool true]) := by rw [hw54]; exact hB47.upd _ _
    have hX58 : Ext [nb] w45 w53 := by rw [hw54]; exact (Ext.refl _ _).updIn (.inl (by simp)) _ _
    have hG59 : Ext [nb, sb] w1 w53 := hG52.trans hX58 (by simp)
    have hE60 : Ext [] w w53 := by rw [hw54]; exact hE50.updIn (.inr hnbn) _ _
    refine seg_end ?_
    refine inBlock_normal ?_
    refine hK19 _ _ ?_
    refine rgn 2 ?_
    refine sg wide_wide [.as (I6 (↑k + 1)), .p] [Value.int .i64 (IntKind.i64.wrap (↑k + 1)) = I6 (↑k + 1)] [(0, (Pv sb)), (8, .pointer none), (9, I6 0), (10, (Pv nb)), (44, v), (45, I6 ↑ks.length), (46, I6 (↑k + 1)), (12, (Pv tk.b)), (55, .bool false)] 2 0 hS (.cons (as_i64 (by omega)) .nil) fun a hS => ?_
    refine seg_end ?_
    refine ⟨(k + 1, IntKind.i64.wrap (W + tk.wd), IntKind.i64.wrap (L + tk.lf), cap5 (TT + tk.tt), true), ⟨hS.keepTo [0, 8, 9, 10, 44, 45, 46] (by kernel_rfl), hB55, by rw [htake]; simpa using hstep, hk, hE60, hEn.trans hG59 (fun b hb => .inl hb), ?_⟩, by simp; omega⟩
    rw [htake]
    intro q hq
    rcases List.mem_append.1 hq with hq | hq
    ·exact hsame q hq
    ·simp at hq; rw [hq]
   ·
    subst hfl
    refine rgn 14 ?_
    refine sg wide_wide [.p, .p, .p, .p, .ld (.bool false), .p, .p, .p, .p, .ld (.bool tk.fl), .p, .p, .p] [_, _] [(0, (Pv sb)), (8, .pointer none), (9, I6 0), (10, (Pv nb)), (44, v), (45, I6 ↑ks.length), (46, I6 ↑k), (12, (Pv tk.b)), (55, .bool false), (101, .bool tk.fl), (103, (Po nb 12))] 13 1 hS (.cons (hB47.cell 12 rfl) (.cons (hB49.cell 12 rfl) .nil)) fun a hS => ?_
    refine eff_store wide_wide (r := 0) (b := nb) (off := 12) (vs := [.bool tk.fl]) hS (by kernel_rfl) hB47 (by simp) fun a w61 hw62 hS => ?_
    have hB63 : Blk w61 nb 106 (#[(Pv sb), I6 0, I6 5, I6 0, I6 0, I6 0, I6 0, I6 0, .slice bs ks.length cap, I6 (IntKind.i64.wrap (W + tk.wd)), I6 (IntKind.i64.wrap (L + tk.lf)), I6 (cap5 (TT + tk.tt)), .bool tk.fl]) := by rw [hw62]; exact hB47.upd _ _
    have hX66 : Ext [nb] w45 w61 := by rw [hw62]; exact (Ext.refl _ _).updIn (.inl (by simp)) _ _
    have hG67 : Ext [nb, sb] w1 w61 := hG52.trans hX66 (by simp)
    have hE68 : Ext [] w w61 := by rw [hw62]; exact hE50.updIn (.inr hnbn) _ _
    refine seg_end ?_
    refine inBlock_normal ?_
    refine hK19 _ _ ?_
    refine rgn 2 ?_
    refine sg wide_wide [.as (I6 (↑k + 1)), .p] [Value.int .i64 (IntKind.i64.wrap (↑k + 1)) = I6 (↑k + 1)] [(0, (Pv sb)), (8, .pointer none), (9, I6 0), (10, (Pv nb)), (44, v), (45, I6 ↑ks.length), (46, I6 (↑k + 1)), (12, (Pv tk.b)), (55, .bool false)] 2 0 hS (.cons (as_i64 (by omega)) .nil) fun a hS => ?_
    refine seg_end ?_
    refine ⟨(k + 1, IntKind.i64.wrap (W + tk.wd), IntKind.i64.wrap (L + tk.lf), cap5 (TT + tk.tt), tk.fl), ⟨hS.keepTo [0, 8, 9, 10, 44, 45, 46] (by kernel_rfl), hB63, by rw [htake]; simpa using hstep, hk, hE68, hEn.trans hG67 (fun b hb => .inl hb), ?_⟩, by simp; omega⟩
    rw [htake]
    intro q hq
    rcases List.mem_append.1 hq with hq | hq
    ·exact hsame q hq
    ·simp at hq; rw [hq]
  ·
   have hs2 : sk ≠ sb := fun h => hs h.symm
   refine rgn 6 ?_
   refine sg wide_wide [.p, .p, .p, .ld ((Pv sk)), .p, .run (.bool true)] [_, Ru Try.prog (vS (do eqGuard .neq 30 (.tmp 53) (.tmp 54) ((Pv sk)) ((Pv sb)); binOp .neq 30 ((Pv sk)) ((Pv sb)))) (.bool true) w1] [(0, (Pv sb)), (8, .pointer none), (9, I6 0), (10, (Pv nb)), (44, v), (45, I6 ↑ks.length), (46, I6 ↑k), (12, (Pv tk.b)), (55, .bool true)] 6 0 hS (.cons (hN.cell 0 rfl) (.cons (bin_ptr_neq (E := 102) (by kernel_rfl) ⟨0, by kernel_rfl⟩ hyB hsb (by simp [hs2])) .nil)) fun a hS => ?_
   refine seg_end ?_
   refine hK22 _ _ ?_
   refine cond_t hS rfl ?_
   refine sq fun K69 hK69 => ?_
   refine rgn 2 ?_
   refine sg wide_wide [.p, .p] [] [(0, (Pv sb)), (8, .pointer none), (9, I6 100), (10, (Pv nb)), (44, v), (45, I6 ↑ks.length), (46, I6 ↑k), (12, (Pv tk.b)), (55, .bool true)] 2 0 hS .nil fun a hS => ?_
   refine seg_end ?_
   refine hK69 _ _ ?_
   refine wpIn_ret ?_
   refine then_ret ?_
   refine inBlock_ret ?_
   refine then_ret ?_
   refine then_ret ?_
   refine inBlock_ret ?_
   refine then_ret ?_
   refine ret2 hS Try.results20 rfl rfl ?_
   exact .inl ⟨⟨_, hmem, hs2⟩, rfl, hEx⟩
 ·
  replace hb18 := of_decide_eq_false hb18
  obtain rfl : k = ks.length := by omega
  rw [List.take_length] at hsum hsame
  refine wpIn_exit ?_
  refine then_exit ?_
  refine then_exit ?_
  refine inBlock_hit ?_
  refine hK14 _ _ ?_
  refine sq fun K70 hK70 => ?_
  refine sq fun K71 hK71 => ?_
  refine rgn 5 ?_
  refine sg wide_wide [.p, .p, .p, .ld (I6 TT), .p] [_] [(0, (Pv sb)), (8, .pointer none), (9, I6 0), (10, (Pv nb)), (44, v), (45, I6 ↑ks.length), (109, .bool (decide ((TT : Int) > 4194304)))] 5 0 hS (.cons (hnb.cell 11 rfl) .nil) fun a hS => ?_
  refine seg_end ?_
  refine hK71 _ _ ?_
  refine cond_b hS rfl (fun hb72 => ?_) (fun hb72 => ?_)
  ·
   replace hb72 := of_decide_eq_true hb72
   have htt2 : TT = cap5 (1 + sumT (kt ks)) := hsum.tt
   have hover : 4194304 < 1 + sumT (kt ks) := by
    unfold cap5 at htt2
    split at htt2 <;> omega
   refine sq fun K73 hK73 => ?_
   refine rgn 2 ?_
   refine sg wide_wide [.p, .p] [] [(0, (Pv sb)), (8, .pointer none), (9, I6 6), (10, (Pv nb)), (44, v), (45, I6 ↑ks.length)] 2 0 hS .nil fun a hS => ?_
   refine seg_end ?_
   refine hK73 _ _ ?_
   refine wpIn_ret ?_
   refine then_ret ?_
   refine ret2 hS Try.results20 rfl rfl ?_
   exact .inr (.inl ⟨hsame, hover, rfl, hEx⟩)
  ·
   replace hb72 := of_decide_eq_false hb72
   have htt2 : TT = cap5 (1 + sumT (kt ks)) := hsum.tt
   have hroom : 1 + sumT (kt ks) ≤ 4194304 := by
    unfold cap5 at htt2
    split at htt2 <;> omega
   have htt3 : TT = 1 + sumT (kt ks) := by
    rw [htt2]; unfold cap5; rw [if_neg (by omega)]
   have hEs : Ext [sb] w w1 := hEx.of0
   refine wpIn_skip ?_
   refine hK70 _ _ ?_
   refine sq fun K74 hK74 => ?_
   refine rgn 8 ?_
   refine sg wide_wide [.p, .p, .p, .p] [] [(0, (Pv sb)), (8, .pointer none), (9, I6 0), (10, (Pv nb)), (44, v), (45, I6 ↑ks.length), (110, (Pv nb)), (113, (Pv sb))] 4 4 hS .nil fun a hS => ?_
   refine eff_call wide_wide (r := 3) (f := 52) (vs := [(Pv sb), I6 1]) (cap := #[]) (d := (some 114)) hS (by kernel_rfl) Try.call52 #[(Pv sb), I6 1] (by kernel_rfl) (Add_any hsb hx) ?_
   rintro _ wA ⟨rfl, hw75⟩
   refine ⟨_, rfl, fun a hS => ?_⟩
   have hB76 := Blk.at' hw75 (hnb.updNe (Blk.ne_type hsb hnb (by decide)) _ _)
   have hB77 : Blk wA sb 102 (#[I6 (x + 1)]) := by rw [hw75]; exact hsb.upd _ _
   have hX78 : Ext [sb] w1 wA := by rw [hw75]; exact (Ext.refl _ _).updIn (.inl (by simp)) _ _
   have hG79 : Ext [nb, sb] w1 wA := hEn0.trans hX78 (by simp)
   have hE80 : Ext [sb] w wA := by rw [hw75]; exact hEs.updIn (.inl (by simp)) _ _
   refine sg wide_wide [.p, .p] [] [(0, (Pv sb)), (8, .pointer none), (9, I6 0), (10, (Pv nb)), (44, v), (45, I6 ↑ks.length), (114, I6 (x + 1)), (116, (Po nb 1))] 7 1 hS .nil fun a hS => ?_
   refine eff_store wide_wide (r := 0) (b := nb) (off := 1) (vs := [I6 (x + 1)]) hS (by kernel_rfl) hB76 (by simp) fun a w81 hw82 hS => ?_
   have hB83 : Blk w81 nb 106 (#[(Pv sb), I6 (x + 1), I6 5, I6 0, I6 0, I6 0, I6 0, I6 0, .slice bs ks.length cap, I6 W, I6 L, I6 TT, .bool fl]) := by rw [hw82]; exact hB76.upd _ _
   have hB84 := Blk.at' hw82 (hB77.updNe (Ne.symm (Blk.ne_type hsb hnb (by decide))) _ _)
   have hX85 : Ext [nb] wA w81 := by rw [hw82]; exact (Ext.refl _ _).updIn (.inl (by simp)) _ _
   have hG86 : Ext [nb, sb] w1 w81 := hG79.trans hX85 (by simp)
   have hE87 : Ext [sb] w w81 := by rw [hw82]; exact hE80.updIn (.inr hnbn) _ _
   refine seg_end ?_
   refine hK74 _ _ ?_
   refine sq fun K88 hK88 => ?_
   refine rgn 3 ?_
   refine sg wide_wide [.p, .p, .p] [] [(0, (Pv sb)), (8, (Pv nb)), (9, I6 0), (10, (Pv nb)), (44, v), (45, I6 ↑ks.length)] 3 0 hS .nil fun a hS => ?_
   refine seg_end ?_
   refine hK88 _ _ ?_
   refine wpIn_ret ?_
   refine ret2 hS Try.results20 rfl rfl ?_
   exact by
    have hnm : ∀ b ∈ ob (.slice bs ks.length cap), b ∉ [nb, sb] := fun b hb hm => by
     have hm : b = nb ∨ b = sb := by simpa using hm
     rcases hm with rfl | rfl
     ·exact hvs1.2 _ hb rfl
     ·have := hnvs _ hb; have := hB.lt; omega
    have hE9 : Ext [nb, sb] w1 w81 := hG86
    have hvs9 : OwnV w81 47 1 (.slice bs ks.length cap) ks.length (ks.map fun q => q.2.ptr) := (hvs1.1.ext hEn hnm).ext hE9 hnm
    obtain ⟨hW, hL⟩ := hsum.wl hroom
    have hok9 : ∀ q ∈ ks, q.2.Ok w81 sb := fun q hq => by
     have h1 := (hks q hq).1
     rw [hsame q hq] at h1
     exact h1.ext hE87 q.2 (fun b hb => by simp at hb; subst hb; exact h1.not_foot hB (by decide) (by decide))
    refine .inr (.inr ⟨hsame, hroom, nb, _, rfl, hnbn, hnvs, (Tr.ok_iff _).2 ⟨⟨?_, ?_, ?_, ?_, hroom, by simp [Tr.kd, Tr.nn]⟩, ?_⟩, hB84, hE87⟩)
    ·have h9 := hB83
     rw [hW, hL, htt3, hsum.fl] at h9
     exact h9
    ·simpa [Tr.ks, Tr.kids, kt, Function.comp_def] using hvs9
    ·intro h; simp [Tr.kd] at h
    ·intro _; simp [Tr.kd, Tr.nn, Tr.lk, Tr.ls, Tr.ll, Tr.lr, Tr.wd, Tr.lf, Tr.tt, Tr.fl, Tr.kids]
    ·exact oks_iff.2 fun t ht => by
      simp only [Tr.kids, kt, List.mem_map] at ht
      obtain ⟨q, hq, rfl⟩ := ht
      exact hok9 q hq

end Go.Proofs.Ytpglmeeledmkoaa
