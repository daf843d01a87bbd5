import Derived.Test.YtkdbfjomjlhfbaaProg
import Derived.Test.YtkdbfjomjlhfbaaR7
namespace Go.Proofs.Ytkdbfjomjlhfbaa
open Go.Vc
set_option linter.unusedSectionVars false
variable [Inhabited Zt]

theorem At_0 {b : Nat} {o : Option Nd} {w : World} (hR : RpOk w b o) {x : Int} (h : x < 0) :
  Calls Try.prog 22 #[(Pv b), I6 x] w fun e w' => e = .returned (.tuple #[.int .u8 0, .bool false]) ∧ Ext [] w w' := by
 refine calls_body 54 [(0, (Pv b)), (1, I6 x)] Try.func22 rfl (by kernel_rfl) (by kernel_rfl) (by kernel_rfl) fun a hS => ?_
 have hE0 : Ext [] w w := Ext.refl _ _
 refine sq fun K1 hK1 => ?_
 refine rgn 2 ?_
 refine sg wide_wide [.p, .p] [] [(0, (Pv b)), (1, I6 x), (4, .int .u8 0), (5, .bool false)] 2 0 hS .nil fun a hS => ?_
 refine seg_end ?_
 refine hK1 _ _ ?_
 refine sq fun K2 hK2 => ?_
 refine sq fun K3 hK3 => ?_
 refine rgn 8 ?_
 refine sg wide_wide [.p, .as (.bool true), .p, .no, .no, .no, .no, .p] [Value.bool (decide ((x : Int) < 0)) = .bool true] [(0, (Pv b)), (1, I6 x), (4, .int .u8 0), (5, .bool false), (15, .bool true)] 8 0 hS (.cons (as_t (by omega)) .nil) fun a hS => ?_
 refine seg_end ?_
 refine hK3 _ _ ?_
 refine cond_t hS rfl ?_
 refine sq fun K4 hK4 => ?_
 refine rgn 2 ?_
 refine sg wide_wide [.p, .p] [] [(0, (Pv b)), (1, I6 x), (4, .int .u8 0), (5, .bool false), (15, .bool true)] 2 0 hS .nil fun a hS => ?_
 refine seg_end ?_
 refine hK4 _ _ ?_
 refine wpIn_ret ?_
 refine then_ret ?_
 refine ret2 hS Try.results22 rfl rfl ?_
 exact ⟨rfl, hE0⟩

theorem At_1 {b : Nat} {o : Option Nd} {w : World} (hR : RpOk w b o) {x : Int} (h : 0 ≤ x ∧ x ≥ (on o : Int)) :
  Calls Try.prog 22 #[(Pv b), I6 x] w fun e w' => e = .returned (.tuple #[.int .u8 0, .bool false]) ∧ Ext [] w w' := by
 refine calls_body 54 [(0, (Pv b)), (1, I6 x)] Try.func22 rfl (by kernel_rfl) (by kernel_rfl) (by kernel_rfl) fun a hS => ?_
 have hE0 : Ext [] w w := Ext.refl _ _
 refine sq fun K1 hK1 => ?_
 refine rgn 2 ?_
 refine sg wide_wide [.p, .p] [] [(0, (Pv b)), (1, I6 x), (4, .int .u8 0), (5, .bool false)] 2 0 hS .nil fun a hS => ?_
 refine seg_end ?_
 refine hK1 _ _ ?_
 refine sq fun K2 hK2 => ?_
 refine sq fun K3 hK3 => ?_
 refine rgn 8 ?_
 refine sg wide_wide [.p, .as (.bool false), .p, .p, .p] [Value.bool (decide ((x : Int) < 0)) = .bool false] [(0, (Pv b)), (1, I6 x), (4, .int .u8 0), (5, .bool false), (10, .bool false), (11, I6 x), (12, (Pv b))] 5 3 hS (.cons (as_f (by omega)) .nil) fun a hS => ?_
 refine eff_call wide_wide (r := 2) (f := 19) (vs := [(Pv b)]) (cap := #[]) (d := (some 13)) hS (by kernel_rfl) Try.call19 #[(Pv b)] (by kernel_rfl) (Len_any hR) ?_
 rintro _ wc4 ⟨rfl, hEc4⟩
 refine ⟨_, rfl, fun a hS => ?_⟩
 have hG6 : RpOk wc4 b o := hR.ext0 hEc4
 have hE7 := hE0.trans0 hEc4
 refine sg wide_wide [.as (.bool true), .p] [Value.bool (decide ((x : Int) ≥ ↑(on o))) = .bool true] [(0, (Pv b)), (1, I6 x), (4, .int .u8 0), (5, .bool false), (15, .bool true)] 8 0 hS (.cons (as_t (by omega)) .nil) fun a hS => ?_
 refine seg_end ?_
 refine hK3 _ _ ?_
 refine cond_t hS rfl ?_
 refine sq fun K8 hK8 => ?_
 refine rgn 2 ?_
 refine sg wide_wide [.p, .p] [] [(0, (Pv b)), (1, I6 x), (4, .int .u8 0), (5, .bool false), (15, .bool true)] 2 0 hS .nil fun a hS => ?_
 refine seg_end ?_
 refine hK8 _ _ ?_
 refine wpIn_ret ?_
 refine then_ret ?_
 refine ret2 hS Try.results22 rfl rfl ?_
 exact ⟨rfl, hE7⟩

theorem At_no {b : Nat} {o : Option Nd} {w : World} (hR : RpOk w b o) {x : Int} (h : x < 0 ∨ x ≥ (on o : Int)) : Calls Try.prog 22 #[Pv b, I6 x] w fun e w' => e = .returned (.tuple #[.int .u8 0, .bool false]) ∧ Ext [] w w' := by
 by_cases h1 : x < 0
 ·exact At_0 hR h1
 ·exact At_1 hR ⟨by omega, by omega⟩

theorem At_some {b : Nat} {t0 : Nd} {w : World} (hR : RpOk w b (some t0)) {i0 : Nat} {x : Int} (hx : t0.bs[i0]? = some x) :
  Calls Try.prog 22 #[(Pv b), I6 ↑i0] w fun e w' => e = .returned (.tuple #[.int .u8 x, .bool true]) ∧ Ext [] w w' := by
 have hlt : i0 < t0.bs.length := (List.getElem?_eq_some_iff.1 hx).1
 have hon : on (some t0) = t0.bs.length := rfl
 have hle : t0.bs.length ≤ 16777216 := hR.2.2
 refine calls_body 54 [(0, (Pv b)), (1, I6 ↑i0)] Try.func22 rfl (by kernel_rfl) (by kernel_rfl) (by kernel_rfl) fun a hS => ?_
 have hE0 : Ext [] w w := Ext.refl _ _
 refine sq fun K1 hK1 => ?_
 refine rgn 2 ?_
 refine sg wide_wide [.p, .p] [] [(0, (Pv b)), (1, I6 ↑i0), (4, .int .u8 0), (5, .bool false)] 2 0 hS .nil fun a hS => ?_
 refine seg_end ?_
 refine hK1 _ _ ?_
 refine sq fun K2 hK2 => ?_
 refine sq fun K3 hK3 => ?_
 refine rgn 8 ?_
 refine sg wide_wide [.p, .as (.bool false), .p, .p, .p] [Value.bool (decide ((↑i0 : Int) < 0)) = .bool false] [(0, (Pv b)), (1, I6 ↑i0), (4, .int .u8 0), (5, .bool false), (10, .bool false), (11, I6 ↑i0), (12, (Pv b))] 5 3 hS (.cons (as_f (by omega)) .nil) fun a hS => ?_
 refine eff_call wide_wide (r := 2) (f := 19) (vs := [(Pv b)]) (cap := #[]) (d := (some 13)) hS (by kernel_rfl) Try.call19 #[(Pv b)] (by kernel_rfl) (Len_any hR) ?_
 rintro _ wc4 ⟨rfl, hEc4⟩
 refine ⟨_, rfl, fun a hS => ?_⟩
 have hB5 := hR.1.ext hEc4 (by simp)
 have hG6 : RpOk wc4 b (some t0) := hR.ext0 hEc4
 have hE7 := hE0.trans0 hEc4
 refine sg wide_wide [.as (.bool false), .p] [Value.bool (decide ((↑i0 : Int) ≥ ↑(on (some t0)))) = .bool false] [(0, (Pv b)), (1, I6 ↑i0), (4, .int .u8 0), (5, .bool false), (15, .bool false)] 8 0 hS (.cons (as_f (by omega)) .nil) fun a hS => ?_
 refine seg_end ?_
 refine hK3 _ _ ?_
 refine cond_f hS rfl ?_
 refine wpIn_skip ?_
 refine hK2 _ _ ?_
 refine sq fun K8 hK8 => ?_
 refine rgn 5 ?_
 refine sg wide_wide [.p, .p, .p, .ld ((Pv t0.b)), .p] [wc4.cell? ⟨b, 0, none⟩ = some ((Pv t0.b))] [(0, (Pv b)), (1, I6 ↑i0), (4, .int .u8 0), (5, .bool false), (15, .bool false), (6, (Pv t0.b))] 5 0 hS (.cons (hB5.cell 0 rfl) .nil) fun a hS => ?_
 refine seg_end ?_
 refine hK8 _ _ ?_
 refine sq fun K9 hK9 => ?_
 refine wpIn_block ?_
 refine loop_ghost (fun ((t, i) : Nd × Nat) a' w' => St 54 [] [(1, I6 ↑i), (6, (Pv t.b))] a' ∧ t.Ok w' ∧ t.bs[i]? = some x ∧ t.n ≤ 16777216 ∧ Ext [] w w') (fun ((t, i) : Nd × Nat) => t.hg) (t0, i0) ⟨hS.keepTo [1, 6] (by kernel_rfl), hG6.2.1, hx, by rw [← Nd.len]; exact hle, hE7⟩ ?_
 rintro ⟨t, i⟩ a w1 ⟨hS, ht, hxi, hbd, hEx⟩
 have hi : i < t.n := by rw [← Nd.len]; exact (List.getElem?_eq_some_iff.1 hxi).1
 refine sq fun K10 hK10 => ?_
 refine sq fun K11 hK11 => ?_
 refine rgn 5 ?_
 refine sg wide_wide [.p, .p, .p, .ld (I6 ↑t.hg), .p] [w1.cell? ⟨t.b, 5, none⟩ = some (I6 ↑t.hg)] [(1, I6 ↑i), (6, (Pv t.b)), (24, .bool (decide ((↑t.hg : Int) > 0)))] 5 0 hS (.cons ((ht.blk).cell 5 rfl) .nil) fun a hS => ?_
 refine seg_end ?_
 refine hK11 _ _ ?_
 refine cond_b hS rfl (fun hb12 => ?_) (fun hb12 => ?_)
 ·
  replace hb12 := of_decide_eq_true hb12
  obtain ⟨l, r, hC, hl, hr, hnn, _, hbs, hhg⟩ := ht.two (by omega)
  rw [hbs, List.getElem?_append, Nd.len] at hxi
  refine wpIn_skip ?_
  refine hK10 _ _ ?_
  refine wpIn_block ?_
  refine sq fun K13 hK13 => ?_
  refine rgn 9 ?_
  refine sg wide_wide [.p, .p, .p, .ld ((Pv l.b)), .p, .p, .p, .ld (I6 ↑l.n), .p] [w1.cell? ⟨t.b, 0, none⟩ = some ((Pv l.b)), w1.cell? ⟨l.b, 3, none⟩ = some (I6 ↑l.n)] [(1, I6 ↑i), (6, (Pv t.b)), (7, I6 ↑l.n)] 9 0 hS (.cons (hC.cell 0 rfl) (.cons ((hl.blk).cell 3 rfl) .nil)) fun a hS => ?_
  refine seg_end ?_
  refine hK13 _ _ ?_
  refine sq fun K14 hK14 => ?_
  refine rgn 3 ?_
  refine sg wide_wide [.p, .p, .p] [] [(1, I6 ↑i), (6, (Pv t.b)), (7, I6 ↑l.n), (35, .bool (decide ((↑i : Int) < ↑l.n)))] 3 0 hS .nil fun a hS => ?_
  refine seg_end ?_
  refine hK14 _ _ ?_
  refine cond_b hS rfl (fun hb15 => ?_) (fun hb15 => ?_)
  ·
   replace hb15 := of_decide_eq_true hb15
   rw [if_pos (by omega)] at hxi
   refine rgn 5 ?_
   refine sg wide_wide [.p, .p, .p, .ld ((Pv l.b)), .p] [w1.cell? ⟨t.b, 0, none⟩ = some ((Pv l.b))] [(1, I6 ↑i), (6, (Pv l.b)), (7, I6 ↑l.n)] 5 0 hS (.cons (hC.cell 0 rfl) .nil) fun a hS => ?_
   refine seg_end ?_
   refine inBlock_normal ?_
   exact ⟨(l, i), ⟨hS.kp [(1, I6 ↑i), (6, (Pv l.b))], hl, hxi, by omega, hEx⟩, by simp only; omega⟩
  ·
   replace hb15 := of_decide_eq_false hb15
   rw [if_neg (by omega)] at hxi
   have hci : (i : Int) - (l.n : Int) = ((i - l.n : Nat) : Int) := by omega
   refine rgn 9 ?_
   refine sg wide_wide [.p, .p, .p, .ld ((Pv r.b)), .p, .p, .as (I6 (↑i - ↑l.n)), .p, .p] [w1.cell? ⟨t.b, 1, none⟩ = some ((Pv r.b)), Value.int .i64 (IntKind.i64.wrap (↑i - ↑l.n)) = I6 (↑i - ↑l.n)] [(1, I6 (↑i - ↑l.n)), (6, (Pv r.b)), (7, I6 ↑l.n)] 9 0 hS (.cons (hC.cell 1 rfl) (.cons (as_i64 (by omega)) .nil)) fun a hS => ?_
   refine seg_end ?_
   refine inBlock_normal ?_
   rw [hci] at hS
   exact ⟨(r, i - l.n), ⟨hS.kp [(1, I6 ((i - l.n : Nat) : Int)), (6, (Pv r.b))], hr, hxi, by omega, hEx⟩, by simp only; omega⟩
 ·
  replace hb12 := of_decide_eq_false hb12
  obtain ⟨v, hC, hv, _⟩ := ht.one (by omega)
  have hB : Blk w1 t.b 89 #[.pointer none, .pointer none, v, I6 ↑t.n, I6 ↑t.rw, I6 ↑t.hg] := hC
  refine wpIn_exit ?_
  refine then_exit ?_
  refine then_exit ?_
  refine inBlock_hit ?_
  refine hK9 _ _ ?_
  refine sq fun K16 hK16 => ?_
  refine rgn 9 ?_
  refine sg wide_wide [.p, .p, .p, .ld (v), .p, .run ((Po (bof v) (oof v + i * 1))), .ld (.int .u8 x), .p, .p] [w1.cell? ⟨t.b, 2, none⟩ = some (v), Ru Try.prog (vS (Instr.indexAt 23 (v) (I6 ↑i))) ((Po (bof v) (oof v + i * 1))) w1, w1.cell? ⟨bof v, oof v + i * 1, none⟩ = some (.int .u8 x)] [(1, I6 ↑i), (6, (Pv t.b)), (4, .int .u8 x), (5, .bool true)] 9 0 hS (.cons (hB.cell 2 rfl) (.cons (ix_rd (e := 5) (j := i) hv (by kernel_rfl) (by kernel_rfl) rfl hi) (.cons (hv.cellAt (i * 1) (by omega) (by rw [Nat.mul_one]; exact bv_at hxi)) .nil))) fun a hS => ?_
  refine seg_end ?_
  refine hK16 _ _ ?_
  refine wpIn_ret ?_
  refine ret2 hS Try.results22 rfl rfl ?_
  exact ⟨rfl, hEx⟩

theorem At_any {b : Nat} {o : Option Nd} {w : World} (hR : RpOk w b o) {i : Nat} {x : Int} (hx : (obs o)[i]? = some x) : Calls Try.prog 22 #[Pv b, I6 i] w fun e w' => e = .returned (.tuple #[.int .u8 x, .bool true]) ∧ Ext [] w w' := by
 cases o with
 | none => simp [obs] at hx
 | some t => exact At_some hR hx

/-- where a row begins -/
def sof : List Int → Nat → Nat
 | [], _ => 0
 | _ :: _, 0 => 0
 | x :: xs, k + 1 => 1 + if x = 10 then sof xs k else sof xs (k + 1)
theorem sof_0 (xs : List Int) : sof xs 0 = 0 := by cases xs <;> rfl
theorem rws_cons (x : Int) (xs : List Int) : rws (x :: xs) = rws xs + if x = 10 then 1 else 0 := by
 simp only [rws, List.count_cons]
 by_cases h : x = 10 <;> simp [h]
theorem sof_app : ∀ (xs ys : List Int) (k : Nat), 0 < k → sof (xs ++ ys) k = if k ≤ rws xs then sof xs k else xs.length + sof ys (k - rws xs)
 | [], ys, k, h => by
  rw [rws_nil, if_neg (by omega)]; simp
 | x :: xs, ys, k + 1, h => by
  rw [List.cons_append, sof, sof, rws_cons, List.length_cons]
  by_cases hx : x = 10
  ·simp only [hx, if_true]
   by_cases hk : k = 0
   ·subst hk; rw [sof_0, sof_0, if_pos (by omega)]
   ·rw [sof_app xs ys k (by omega)]
    by_cases h2 : k ≤ rws xs
    ·rw [if_pos h2, if_pos (by omega)]
    ·rw [if_neg h2, if_neg (by omega), show k + 1 - (rws xs + 1) = k - rws xs by omega]; omega
  ·simp only [hx, if_false, Nat.add_zero]
   rw [sof_app xs ys (k + 1) (by omega)]
   by_cases h2 : k + 1 ≤ rws xs
   ·rw [if_pos h2, if_pos h2]
   ·rw [if_neg h2, if_neg h2]; omega
theorem sof_le : ∀ (xs : List Int) (k : Nat), sof xs k ≤ xs.length
 | [], k => by simp [sof]
 | x :: xs, 0 => by simp [sof]
 | x :: xs, k + 1 => by
  have h1 := sof_le xs k
  have h2 := sof_le xs (k + 1)
  rw [sof, List.length_cons]
  split <;> omega

theorem Start_0 {b : Nat} {o : Option Nd} {w : World} (hR : RpOk w b o) {x : Int} (h : x < 0) :
  Calls Try.prog 16 #[(Pv b), I6 x] w fun e w' => e = .returned (.tuple #[I6 0, I6 3]) ∧ Ext [] w w' := by
 refine calls_body 89 [(0, (Pv b)), (1, I6 x)] Try.func16 rfl (by kernel_rfl) (by kernel_rfl) (by kernel_rfl) fun a hS => ?_
 have hE0 : Ext [] w w := Ext.refl _ _
 refine sq fun K1 hK1 => ?_
 refine rgn 2 ?_
 refine sg wide_wide [.p, .p] [] [(0, (Pv b)), (1, I6 x), (4, I6 0), (5, I6 0)] 2 0 hS .nil fun a hS => ?_
 refine seg_end ?_
 refine hK1 _ _ ?_
 refine sq fun K2 hK2 => ?_
 refine sq fun K3 hK3 => ?_
 refine rgn 8 ?_
 refine sg wide_wide [.p, .as (.bool true), .p, .no, .no, .no, .no, .p] [Value.bool (decide ((x : Int) < 0)) = .bool true] [(0, (Pv b)), (1, I6 x), (4, I6 0), (5, I6 0), (17, .bool true)] 8 0 hS (.cons (as_t (by omega)) .nil) fun a hS => ?_
 refine seg_end ?_
 refine hK3 _ _ ?_
 refine cond_t hS rfl ?_
 refine sq fun K4 hK4 => ?_
 refine rgn 2 ?_
 refine sg wide_wide [.p, .p] [] [(0, (Pv b)), (1, I6 x), (4, I6 0), (5, I6 3), (17, .bool true)] 2 0 hS .nil fun a hS => ?_
 refine seg_end ?_
 refine hK4 _ _ ?_
 refine wpIn_ret ?_
 refine then_ret ?_
 refine ret2 hS Try.results16 rfl rfl ?_
 exact ⟨rfl, hE0⟩

theorem Start_1 {b : Nat} {o : Option Nd} {w : World} (hR : RpOk w b o) {x : Int} (h : 0 ≤ x ∧ x ≥ (rws (obs o) : Nat) + 1) :
  Calls Try.prog 16 #[(Pv b), I6 x] w fun e w' => e = .returned (.tuple #[I6 0, I6 3]) ∧ Ext [] w w' := by
 refine calls_body 89 [(0, (Pv b)), (1, I6 x)] Try.func16 rfl (by kernel_rfl) (by kernel_rfl) (by kernel_rfl) fun a hS => ?_
 have hE0 : Ext [] w w := Ext.refl _ _
 refine sq fun K1 hK1 => ?_
 refine rgn 2 ?_
 refine sg wide_wide [.p, .p] [] [(0, (Pv b)), (1, I6 x), (4, I6 0), (5, I6 0)] 2 0 hS .nil fun a hS => ?_
 refine seg_end ?_
 refine hK1 _ _ ?_
 refine sq fun K2 hK2 => ?_
 refine sq fun K3 hK3 => ?_
 refine rgn 8 ?_
 refine sg wide_wide [.p, .as (.bool false), .p, .p, .p] [Value.bool (decide ((x : Int) < 0)) = .bool false] [(0, (Pv b)), (1, I6 x), (4, I6 0), (5, I6 0), (12, .bool false), (13, I6 x), (14, (Pv b))] 5 3 hS (.cons (as_f (by omega)) .nil) fun a hS => ?_
 refine eff_call wide_wide (r := 2) (f := 15) (vs := [(Pv b)]) (cap := #[]) (d := (some 15)) hS (by kernel_rfl) Try.call15 #[(Pv b)] (by kernel_rfl) (Rows_any hR) ?_
 rintro _ wc4 ⟨rfl, hEc4⟩
 refine ⟨_, rfl, fun a hS => ?_⟩
 have hG6 : RpOk wc4 b o := hR.ext0 hEc4
 have hE7 := hE0.trans0 hEc4
 refine sg wide_wide [.as (.bool true), .p] [Value.bool (decide ((x : Int) ≥ ↑(rws (obs o)) + 1)) = .bool true] [(0, (Pv b)), (1, I6 x), (4, I6 0), (5, I6 0), (17, .bool true)] 8 0 hS (.cons (as_t (by omega)) .nil) fun a hS => ?_
 refine seg_end ?_
 refine hK3 _ _ ?_
 refine cond_t hS rfl ?_
 refine sq fun K8 hK8 => ?_
 refine rgn 2 ?_
 refine sg wide_wide [.p, .p] [] [(0, (Pv b)), (1, I6 x), (4, I6 0), (5, I6 3), (17, .bool true)] 2 0 hS .nil fun a hS => ?_
 refine seg_end ?_
 refine hK8 _ _ ?_
 refine wpIn_ret ?_
 refine then_ret ?_
 refine ret2 hS Try.results16 rfl rfl ?_
 exact ⟨rfl, hE7⟩

theorem Start_no {b : Nat} {o : Option Nd} {w : World} (hR : RpOk w b o) {x : Int} (h : x < 0 ∨ x ≥ (rws (obs o) : Nat) + 1) : Calls Try.prog 16 #[Pv b, I6 x] w fun e w' => e = .returned (.tuple #[I6 0, I6 3]) ∧ Ext [] w w' := by
 by_cases h1 : x < 0
 ·exact Start_0 hR h1
 ·exact Start_1 hR ⟨by omega, by omega⟩

theorem Start_z {b : Nat} {o : Option Nd} {w : World} (hR : RpOk w b o) :
  Calls Try.prog 16 #[(Pv b), I6 0] w fun e w' => e = .returned (.tuple #[I6 0, I6 0]) ∧ Ext [] w w' := by
 refine calls_body 89 [(0, (Pv b)), (1, I6 0)] Try.func16 rfl (by kernel_rfl) (by kernel_rfl) (by kernel_rfl) fun a hS => ?_
 have hE0 : Ext [] w w := Ext.refl _ _
 refine sq fun K1 hK1 => ?_
 refine rgn 2 ?_
 refine sg wide_wide [.p, .p] [] [(0, (Pv b)), (1, I6 0), (4, I6 0), (5, I6 0)] 2 0 hS .nil fun a hS => ?_
 refine seg_end ?_
 refine hK1 _ _ ?_
 refine sq fun K2 hK2 => ?_
 refine sq fun K3 hK3 => ?_
 refine rgn 8 ?_
 refine sg wide_wide [.p, .p, .p, .p, .p] [] [(0, (Pv b)), (1, I6 0), (4, I6 0), (5, I6 0), (12, .bool false), (13, I6 0), (14, (Pv b))] 5 3 hS .nil fun a hS => ?_
 refine eff_call wide_wide (r := 2) (f := 15) (vs := [(Pv b)]) (cap := #[]) (d := (some 15)) hS (by kernel_rfl) Try.call15 #[(Pv b)] (by kernel_rfl) (Rows_any hR) ?_
 rintro _ wc4 ⟨rfl, hEc4⟩
 refine ⟨_, rfl, fun a hS => ?_⟩
 have hG6 : RpOk wc4 b o := hR.ext0 hEc4
 have hE7 := hE0.trans0 hEc4
 refine sg wide_wide [.as (.bool false), .p] [Value.bool (decide ((0 : Int) ≥ ↑(rws (obs o)) + 1)) = .bool false] [(0, (Pv b)), (1, I6 0), (4, I6 0), (5, I6 0), (17, .bool false)] 8 0 hS (.cons (as_f (by omega)) .nil) fun a hS => ?_
 refine seg_end ?_
 refine hK3 _ _ ?_
 refine cond_f hS rfl ?_
 refine wpIn_skip ?_
 refine hK2 _ _ ?_
 refine sq fun K8 hK8 => ?_
 refine sq fun K9 hK9 => ?_
 refine rgn 2 ?_
 refine sg wide_wide [.p, .p] [] [(0, (Pv b)), (1, I6 0), (4, I6 0), (5, I6 0), (17, .bool false), (19, .bool true)] 2 0 hS .nil fun a hS => ?_
 refine seg_end ?_
 refine hK9 _ _ ?_
 refine cond_t hS rfl ?_
 refine sq fun K10 hK10 => ?_
 refine rgn 2 ?_
 refine sg wide_wide [.p, .p] [] [(0, (Pv b)), (1, I6 0), (4, I6 0), (5, I6 0), (17, .bool false), (19, .bool true)] 2 0 hS .nil fun a hS => ?_
 refine seg_end ?_
 refine hK10 _ _ ?_
 refine wpIn_ret ?_
 refine then_ret ?_
 refine ret2 hS Try.results16 rfl rfl ?_
 exact ⟨rfl, hE7⟩

theorem Start_some {b : Nat} {t0 : Nd} {w : World} (hR : RpOk w b (some t0)) {k0 : Nat} (h0 : 0 < k0) (hk0 : k0 ≤ rws t0.bs) :
  Calls Try.prog 16 #[(Pv b), I6 ↑k0] w fun e w' => e = .returned (.tuple #[I6 (sof t0.bs k0 : Nat), I6 0]) ∧ Ext [] w w' := by
 have hon : rws (obs (some t0)) = rws t0.bs := rfl
 have hle : t0.bs.length ≤ 16777216 := hR.2.2
 have hrl := rws_le t0.bs
 refine calls_body 89 [(0, (Pv b)), (1, I6 ↑k0)] Try.func16 rfl (by kernel_rfl) (by kernel_rfl) (by kernel_rfl) fun a hS => ?_
 have hE0 : Ext [] w w := Ext.refl _ _
 refine sq fun K1 hK1 => ?_
 refine rgn 2 ?_
 refine sg wide_wide [.p, .p] [] [(0, (Pv b)), (1, I6 ↑k0), (4, I6 0), (5, I6 0)] 2 0 hS .nil fun a hS => ?_
 refine seg_end ?_
 refine hK1 _ _ ?_
 refine sq fun K2 hK2 => ?_
 refine sq fun K3 hK3 => ?_
 refine rgn 8 ?_
 refine sg wide_wide [.p, .as (.bool false), .p, .p, .p] [Value.bool (decide ((↑k0 : Int) < 0)) = .bool false] [(0, (Pv b)), (1, I6 ↑k0), (4, I6 0), (5, I6 0), (12, .bool false), (13, I6 ↑k0), (14, (Pv b))] 5 3 hS (.cons (as_f (by omega)) .nil) fun a hS => ?_
 refine eff_call wide_wide (r := 2) (f := 15) (vs := [(Pv b)]) (cap := #[]) (d := (some 15)) hS (by kernel_rfl) Try.call15 #[(Pv b)] (by kernel_rfl) (Rows_any hR) ?_
 rintro _ wc4 ⟨rfl, hEc4⟩
 refine ⟨_, rfl, fun a hS => ?_⟩
 have hB5 := hR.1.ext hEc4 (by simp)
 have hG6 : RpOk wc4 b (some t0) := hR.ext0 hEc4
 have hE7 := hE0.trans0 hEc4
 refine sg wide_wide [.as (.bool false), .p] [Value.bool (decide ((↑k0 : Int) ≥ ↑(rws (obs (some t0))) + 1)) = .bool false] [(0, (Pv b)), (1, I6 ↑k0), (4, I6 0), (5, I6 0), (17, .bool false)] 8 0 hS (.cons (as_f (by omega)) .nil) fun a hS => ?_
 refine seg_end ?_
 refine hK3 _ _ ?_
 refine cond_f hS rfl ?_
 refine wpIn_skip ?_
 refine hK2 _ _ ?_
 refine sq fun K8 hK8 => ?_
 refine sq fun K9 hK9 => ?_
 refine rgn 2 ?_
 refine sg wide_wide [.p, .as (.bool false)] [Value.bool (((↑k0 : Int) == 0)) = .bool false] [(0, (Pv b)), (1, I6 ↑k0), (4, I6 0), (5, I6 0), (17, .bool false), (19, .bool false)] 2 0 hS (.cons (as_eq_f (by omega)) .nil) fun a hS => ?_
 refine seg_end ?_
 refine hK9 _ _ ?_
 refine cond_f hS rfl ?_
 refine wpIn_skip ?_
 refine hK8 _ _ ?_
 refine sq fun K10 hK10 => ?_
 refine rgn 1 ?_
 refine sg wide_wide [.p] [] [(0, (Pv b)), (1, I6 ↑k0), (4, I6 0), (5, I6 0), (17, .bool false), (19, .bool false), (6, I6 0)] 1 0 hS .nil fun a hS => ?_
 refine seg_end ?_
 refine hK10 _ _ ?_
 refine sq fun K11 hK11 => ?_
 refine rgn 5 ?_
 refine sg wide_wide [.p, .p, .p, .ld ((Pv t0.b)), .p] [wc4.cell? ⟨b, 0, none⟩ = some ((Pv t0.b))] [(0, (Pv b)), (1, I6 ↑k0), (4, I6 0), (5, I6 0), (17, .bool false), (19, .bool false), (6, I6 0), (7, (Pv t0.b))] 5 0 hS (.cons (hB5.cell 0 rfl) .nil) fun a hS => ?_
 refine seg_end ?_
 refine hK11 _ _ ?_
 refine sq fun K12 hK12 => ?_
 refine wpIn_block ?_
 refine loop_ghost (fun ((t, k, p) : Nd × Nat × Nat) a' w' => St 89 [] [(1, I6 ↑k), (6, I6 ↑p), (7, (Pv t.b))] a' ∧ t.Ok w' ∧ 0 < k ∧ k ≤ rws t.bs ∧ p + sof t.bs k = sof t0.bs k0 ∧ p + t.n ≤ 16777216 ∧ Ext [] w w') (fun ((t, k, p) : Nd × Nat × Nat) => t.hg) (t0, k0, 0) ⟨hS.keepTo [1, 6, 7] (by kernel_rfl), hG6.2.1, h0, hk0, Nat.zero_add _, by rw [← Nd.len]; omega, hE7⟩ ?_
 rintro ⟨t, k, p⟩ a w1 ⟨hS, ht, hk, hkr, hsf, hbd, hEx⟩
 have hkn : rws t.bs ≤ t.n := by rw [← Nd.len]; exact rws_le _
 refine sq fun K13 hK13 => ?_
 refine sq fun K14 hK14 => ?_
 refine rgn 5 ?_
 refine sg wide_wide [.p, .p, .p, .ld (I6 ↑t.hg), .p] [w1.cell? ⟨t.b, 5, none⟩ = some (I6 ↑t.hg)] [(1, I6 ↑k), (6, I6 ↑p), (7, (Pv t.b)), (28, .bool (decide ((↑t.hg : Int) > 0)))] 5 0 hS (.cons ((ht.blk).cell 5 rfl) .nil) fun a hS => ?_
 refine seg_end ?_
 refine hK14 _ _ ?_
 refine cond_b hS rfl (fun hb15 => ?_) (fun hb15 => ?_)
 ·
  replace hb15 := of_decide_eq_true hb15
  obtain ⟨l, r, hC, hl, hr, hnn, _, hbs, hhg⟩ := ht.two (by omega)
  rw [hbs, sof_app _ _ _ hk, Nd.len] at hsf
  rw [hbs, rws_app] at hkr
  have hlr := Nd.rweq l
  have hln : rws l.bs ≤ l.n := by rw [← Nd.len]; exact rws_le _
  have hrn : rws r.bs ≤ r.n := by rw [← Nd.len]; exact rws_le _
  refine wpIn_skip ?_
  refine hK13 _ _ ?_
  refine wpIn_block ?_
  refine sq fun K16 hK16 => ?_
  refine sq fun K17 hK17 => ?_
  refine rgn 10 ?_
  refine sg wide_wide [.p, .p, .p, .ld ((Pv l.b)), .p, .p, .p, .ld (I6 ↑l.rw), .p, .p] [w1.cell? ⟨t.b, 0, none⟩ = some ((Pv l.b)), w1.cell? ⟨l.b, 4, none⟩ = some (I6 ↑l.rw)] [(1, I6 ↑k), (6, I6 ↑p), (7, (Pv t.b)), (38, .bool (decide ((↑l.rw : Int) ≥ ↑k)))] 10 0 hS (.cons (hC.cell 0 rfl) (.cons ((hl.blk).cell 4 rfl) .nil)) fun a hS => ?_
  refine seg_end ?_
  refine hK17 _ _ ?_
  refine cond_b hS rfl (fun hb18 => ?_) (fun hb18 => ?_)
  ·
   replace hb18 := of_decide_eq_true hb18
   rw [if_pos (by omega)] at hsf
   refine sq fun K19 hK19 => ?_
   refine rgn 5 ?_
   refine sg wide_wide [.p, .p, .p, .ld ((Pv l.b)), .p] [w1.cell? ⟨t.b, 0, none⟩ = some ((Pv l.b))] [(1, I6 ↑k), (6, I6 ↑p), (7, (Pv l.b))] 5 0 hS (.cons (hC.cell 0 rfl) .nil) fun a hS => ?_
   refine seg_end ?_
   refine hK19 _ _ ?_
   refine wpIn_exit ?_
   refine then_exit ?_
   refine inBlock_hit ?_
   exact ⟨(l, k, p), ⟨hS.kp [(1, I6 ↑k), (6, I6 ↑p), (7, (Pv l.b))], hl, hk, by omega, hsf, by omega, hEx⟩, by simp only; omega⟩
  ·
   replace hb18 := of_decide_eq_false hb18
   rw [if_neg (by omega)] at hsf
   have hc1 : (p : Int) + (l.n : Int) = ((p + l.n : Nat) : Int) := by omega
   have hc2 : (k : Int) - (l.rw : Int) = ((k - rws l.bs : Nat) : Int) := by omega
   refine wpIn_skip ?_
   refine hK16 _ _ ?_
   refine sq fun K20 hK20 => ?_
   refine rgn 11 ?_
   refine sg wide_wide [.p, .p, .p, .p, .ld ((Pv l.b)), .p, .p, .p, .ld (I6 ↑l.n), .as (I6 (↑p + ↑l.n)), .p] [w1.cell? ⟨t.b, 0, none⟩ = some ((Pv l.b)), w1.cell? ⟨l.b, 3, none⟩ = some (I6 ↑l.n), Value.int .i64 (IntKind.i64.wrap (↑p + ↑l.n)) = I6 (↑p + ↑l.n)] [(1, I6 ↑k), (6, I6 (↑p + ↑l.n)), (7, (Pv t.b))] 11 0 hS (.cons (hC.cell 0 rfl) (.cons ((hl.blk).cell 3 rfl) (.cons (as_i64 (by omega)) .nil))) fun a hS => ?_
   refine seg_end ?_
   refine hK20 _ _ ?_
   refine sq fun K21 hK21 => ?_
   refine rgn 11 ?_
   refine sg wide_wide [.p, .p, .p, .p, .ld ((Pv l.b)), .p, .p, .p, .ld (I6 ↑l.rw), .as (I6 (↑k - ↑l.rw)), .p] [w1.cell? ⟨t.b, 0, none⟩ = some ((Pv l.b)), w1.cell? ⟨l.b, 4, none⟩ = some (I6 ↑l.rw), Value.int .i64 (IntKind.i64.wrap (↑k - ↑l.rw)) = I6 (↑k - ↑l.rw)] [(1, I6 (↑k - ↑l.rw)), (6, I6 (↑p + ↑l.n)), (7, (Pv t.b))] 11 0 hS (.cons (hC.cell 0 rfl) (.cons ((hl.blk).cell 4 rfl) (.cons (as_i64 (by omega)) .nil))) fun a hS => ?_
   refine seg_end ?_
   refine hK21 _ _ ?_
   refine rgn 5 ?_
   refine sg wide_wide [.p, .p, .p, .ld ((Pv r.b)), .p] [w1.cell? ⟨t.b, 1, none⟩ = some ((Pv r.b))] [(1, I6 (↑k - ↑l.rw)), (6, I6 (↑p + ↑l.n)), (7, (Pv r.b))] 5 0 hS (.cons (hC.cell 1 rfl) .nil) fun a hS => ?_
   refine seg_end ?_
   refine inBlock_normal ?_
   rw [hc1, hc2] at hS
   exact ⟨(r, k - rws l.bs, p + l.n), ⟨hS.kp [(1, I6 ((k - rws l.bs : Nat) : Int)), (6, I6 ((p + l.n : Nat) : Int)), (7, (Pv r.b))], hr, by omega, by omega, by omega, by omega, hEx⟩, by simp only; omega⟩
 ·
  replace hb15 := of_decide_eq_false hb15
  obtain ⟨v, hC, hv, _⟩ := ht.one (by omega)
  have hB : Blk w1 t.b 89 #[.pointer none, .pointer none, v, I6 ↑t.n, I6 ↑t.rw, I6 ↑t.hg] := hC
  refine wpIn_exit ?_
  refine then_exit ?_
  refine then_exit ?_
  refine inBlock_hit ?_
  refine hK12 _ _ ?_
  refine sq fun K22 hK22 => ?_
  refine sq fun K23 hK23 => ?_
  refine rgn 6 ?_
  refine sg wide_wide [.p, .p, .p, .ld (v), .run (I6 ↑t.n), .p] [w1.cell? ⟨t.b, 2, none⟩ = some (v), Ru Try.prog (vS (Builtin.len_ #[23] 3 #[v])) (I6 ↑t.n) w1] [(1, I6 ↑k), (6, I6 ↑p), (7, (Pv t.b)), (70, v), (71, I6 ↑t.n), (72, I6 0)] 6 0 hS (.cons (hB.cell 2 rfl) (.cons (run_len_rd (e := 5) hv (by kernel_rfl)) .nil)) fun a hS => ?_
  refine seg_end ?_
  refine hK23 _ _ ?_
  refine wpIn_block ?_
  have hnl := Nd.len t
  refine loop_ghost (fun ((i, q) : Nat × Nat) a' w' => St 89 [] [(1, I6 ↑q), (6, I6 ↑p), (70, v), (71, I6 ↑t.n), (72, I6 ↑i)] a' ∧ w' = w1 ∧ i ≤ t.n ∧ 0 < q ∧ q ≤ rws (t.bs.drop i) ∧ i + sof (t.bs.drop i) q = sof t.bs k) (fun ((i, q) : Nat × Nat) => t.n - i) (0, k) ⟨hS.keepTo [1, 6, 70, 71, 72] (by kernel_rfl), rfl, Nat.zero_le _, hk, by simpa using hkr, by simp⟩ ?_
  rintro ⟨i, q⟩ a w2 ⟨hS, hw1, hin, hq0, hqr, hqs⟩
  replace hw1 := hw1.symm
  subst hw1
  refine sq fun K24 hK24 => ?_
  refine rgn 1 ?_
  refine sg wide_wide [.p] [] [(1, I6 ↑q), (6, I6 ↑p), (70, v), (71, I6 ↑t.n), (72, I6 ↑i), (73, .bool (decide ((↑i : Int) < ↑t.n)))] 1 0 hS .nil fun a hS => ?_
  refine seg_end ?_
  refine hK24 _ _ ?_
  refine sq fun K25 hK25 => ?_
  refine cond_b hS rfl (fun hb26 => ?_) (fun hb26 => ?_)
  ·
   replace hb26 := of_decide_eq_true hb26
   have hi : i < t.n := by omega
   obtain ⟨x, hx⟩ : ∃ x, t.bs[i]? = some x := ⟨_, List.getElem?_eq_getElem (by omega)⟩
   have hdr : t.bs.drop i = x :: t.bs.drop (i + 1) := by rw [List.drop_eq_getElem_cons (by omega)]; congr 1; exact (List.getElem?_eq_some_iff.1 hx).2
   obtain ⟨j, rfl⟩ : ∃ j, q = j + 1 := ⟨q - 1, by omega⟩
   rw [hdr, rws_cons] at hqr
   rw [hdr, sof] at hqs
   have hrl2 := rws_le (t.bs.drop (i + 1))
   have hdl : (t.bs.drop (i + 1)).length = t.n - (i + 1) := by rw [List.length_drop, hnl]
   refine wpIn_skip ?_
   refine hK25 _ _ ?_
   refine sq fun K27 hK27 => ?_
   refine wpIn_block ?_
   refine sq fun K28 hK28 => ?_
   refine rgn 5 ?_
   refine sg wide_wide [.p, .run ((Po (bof v) (oof v + i * 1))), .ld (.int .u8 x), .p, .p] [Ru Try.prog (vS (Instr.indexAt 23 (v) (I6 ↑i))) ((Po (bof v) (oof v + i * 1))) w1, w1.cell? ⟨bof v, oof v + i * 1, none⟩ = some (.int .u8 x)] [(1, I6 (↑(j + 1))), (6, I6 ↑p), (70, v), (71, I6 ↑t.n), (72, I6 ↑i), (8, I6 ↑i), (9, .int .u8 x)] 5 0 hS (.cons (ix_rd (e := 5) (j := i) hv (by kernel_rfl) (by kernel_rfl) rfl hi) (.cons (hv.cellAt (i * 1) (by omega) (by rw [Nat.mul_one]; exact bv_at hx)) .nil)) fun a hS => ?_
   refine seg_end ?_
   refine hK28 _ _ ?_
   refine sq fun K29 hK29 => ?_
   refine sq fun K30 hK30 => ?_
   refine rgn 2 ?_
   refine sg wide_wide [.p, .p] [] [(1, I6 (↑(j + 1))), (6, I6 ↑p), (70, v), (71, I6 ↑t.n), (72, I6 ↑i), (8, I6 ↑i), (9, .int .u8 x), (78, .bool ((x : Int) == 10))] 2 0 hS .nil fun a hS => ?_
   refine seg_end ?_
   refine hK30 _ _ ?_
   refine cond_b hS rfl (fun hb31 => ?_) (fun hb31 => ?_)
   ·
    replace hb31 := test_eq_t hb31
    rw [if_pos (by omega)] at hqr
    rw [if_pos (by omega)] at hqs
    have hcj : ((j + 1 : Nat) : Int) - 1 = (j : Int) := by omega
    refine rgn 3 ?_
    refine sg wide_wide [.p, .as (I6 ↑j), .p] [Value.int .i64 (IntKind.i64.wrap ((↑(j + 1)) - 1)) = I6 ↑j] [(1, I6 ↑j), (6, I6 ↑p), (70, v), (71, I6 ↑t.n), (72, I6 ↑i), (8, I6 ↑i), (9, .int .u8 x)] 3 0 hS (.cons ((by rw [show ((↑(j + 1)) - 1 : Int) = ↑j from by omega]; exact as_i64 (by omega))) .nil) fun a hS => ?_
    refine seg_end ?_
    refine hK29 _ _ ?_
    refine sq fun K32 hK32 => ?_
    refine rgn 2 ?_
    refine sg wide_wide [.p, .p] [] [(1, I6 ↑j), (6, I6 ↑p), (70, v), (71, I6 ↑t.n), (72, I6 ↑i), (8, I6 ↑i), (9, .int .u8 x), (82, .bool ((↑j : Int) == 0))] 2 0 hS .nil fun a hS => ?_
    refine seg_end ?_
    refine hK32 _ _ ?_
    refine cond_b hS rfl (fun hb33 => ?_) (fun hb33 => ?_)
    ·
     replace hb33 := test_eq_t hb33
     have hj0 : j = 0 := by omega
     rw [hj0, sof_0] at hqs
     have hres : (p : Int) + (i : Int) + 1 = ((sof t0.bs k0 : Nat) : Int) := by omega
     have hres2 : ((p : Int) + (i : Int)) + 1 = ((sof t0.bs k0 : Nat) : Int) := hres
     refine sq fun K34 hK34 => ?_
     refine rgn 6 ?_
     refine sg wide_wide [.p, .p, .as (I6 (↑p + ↑i)), .as (I6 (↑(sof t0.bs k0))), .p, .p] [Value.int .i64 (IntKind.i64.wrap (↑p + ↑i)) = I6 (↑p + ↑i), Value.int .i64 (IntKind.i64.wrap ((↑p + ↑i) + 1)) = I6 (↑(sof t0.bs k0))] [(1, I6 ↑j), (6, I6 ↑p), (70, v), (71, I6 ↑t.n), (72, I6 ↑i), (8, I6 ↑i), (9, .int .u8 x), (4, I6 (↑(sof t0.bs k0))), (5, I6 0)] 6 0 hS (.cons (as_i64 (by omega)) (.cons ((by rw [show ((↑p + ↑i) + 1 : Int) = ↑(sof t0.bs k0) from by omega]; exact as_i64 (by omega))) .nil)) fun a hS => ?_
     refine seg_end ?_
     refine hK34 _ _ ?_
     refine wpIn_ret ?_
     refine inBlock_ret ?_
     refine then_ret ?_
     refine then_ret ?_
     refine inBlock_ret ?_
     refine then_ret ?_
     refine ret2 hS Try.results16 rfl rfl ?_
     exact ⟨rfl, hEx⟩
    ·
     replace hb33 := test_eq_f hb33
     refine wpIn_skip ?_
     refine inBlock_normal ?_
     refine hK27 _ _ ?_
     refine rgn 2 ?_
     refine sg wide_wide [.as (I6 (↑i + 1)), .p] [Value.int .i64 (IntKind.i64.wrap (↑i + 1)) = I6 (↑i + 1)] [(1, I6 ↑j), (6, I6 ↑p), (70, v), (71, I6 ↑t.n), (72, I6 (↑i + 1)), (8, I6 ↑i), (9, .int .u8 x)] 2 0 hS (.cons (as_i64 (by omega)) .nil) fun a hS => ?_
     refine seg_end ?_
     exact ⟨(i + 1, j), ⟨hS.kp [(1, I6 ↑j), (6, I6 ↑p), (70, v), (71, I6 ↑t.n), (72, I6 (↑i + 1))], rfl, by omega, by omega, by omega, by omega⟩, by simp only; omega⟩
   ·
    replace hb31 := test_eq_f hb31
    rw [if_neg (by omega)] at hqr
    rw [if_neg (by omega)] at hqs
    refine wpIn_skip ?_
    refine hK29 _ _ ?_
    refine sq fun K35 hK35 => ?_
    refine rgn 2 ?_
    refine sg wide_wide [.p, .as (.bool false)] [Value.bool (((↑(j + 1) : Int) == 0)) = .bool false] [(1, I6 (↑(j + 1))), (6, I6 ↑p), (70, v), (71, I6 ↑t.n), (72, I6 ↑i), (8, I6 ↑i), (9, .int .u8 x), (82, .bool false)] 2 0 hS (.cons (as_eq_f (by omega)) .nil) fun a hS => ?_
    refine seg_end ?_
    refine hK35 _ _ ?_
    refine cond_f hS rfl ?_
    refine wpIn_skip ?_
    refine inBlock_normal ?_
    refine hK27 _ _ ?_
    refine rgn 2 ?_
    refine sg wide_wide [.as (I6 (↑i + 1)), .p] [Value.int .i64 (IntKind.i64.wrap (↑i + 1)) = I6 (↑i + 1)] [(1, I6 (↑(j + 1))), (6, I6 ↑p), (70, v), (71, I6 ↑t.n), (72, I6 (↑i + 1)), (8, I6 ↑i), (9, .int .u8 x), (82, .bool false)] 2 0 hS (.cons (as_i64 (by omega)) .nil) fun a hS => ?_
    refine seg_end ?_
    exact ⟨(i + 1, j + 1), ⟨hS.kp [(1, I6 (↑(j + 1))), (6, I6 ↑p), (70, v), (71, I6 ↑t.n), (72, I6 (↑i + 1))], rfl, by omega, by omega, by omega, by omega⟩, by simp only; omega⟩
  ·
   replace hb26 := of_decide_eq_false hb26
   obtain rfl : i = t.n := by omega
   rw [List.drop_of_length_le (by omega)] at hqr
   simp at hqr
   omega

theorem Start_any {b : Nat} {o : Option Nd} {w : World} (hR : RpOk w b o) {k : Nat} (hk : k ≤ rws (obs o)) : Calls Try.prog 16 #[Pv b, I6 k] w fun e w' => e = .returned (.tuple #[I6 (sof (obs o) k : Nat), I6 0]) ∧ Ext [] w w' := by
 by_cases h : k = 0
 ·subst h; rw [sof_0]; exact Start_z hR
 ·cases o with
  | none => simp [obs] at hk; omega
  | some t => exact Start_some hR (by omega) hk

end Go.Proofs.Ytkdbfjomjlhfbaa
