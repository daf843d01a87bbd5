import Derived.Test.YtkdbfjomjlhfbaaProg
import Derived.Test.YtkdbfjomjlhfbaaCk
namespace Go.Proofs.Ytkdbfjomjlhfbaa
open Go.Vc
set_option linter.unusedSectionVars false
variable [Inhabited Zt]

theorem chunks1_any {fb rb b i : Nat} {o : Option Nd} {w : World} (hfb : Blk w fb 3 #[I6 i]) (hrb : Blk w rb 24 #[Pv b]) (hR : RpOk w b o) (hi : i ≤ on o) :
  SeqOk (α := Cp) (β := Cv) Try.prog 65 [Pv fb, Pv rb] (·.1) ckE ckB ckOk (CkNx i ((obs o).drop i)) (CkFin ((obs o).drop i)) (fun x => x = fb ∨ x = rb ∨ x = b ∨ footO o x) w := by
 intro l J Jx C hJ hJx hCT hCl h0 hY
 show Calls Try.prog 65 #[.func (.yield l) #[] #[], Pv fb, Pv rb] w fun e w' => (∃ v, e = .returned v) ∧ ∃ C', Ext C w w' ∧ Fresh w.heap.size C C' ∧ Lie w' C' ∧ ((∃ all, CkFin ((obs o).drop i) (all.map (·.1)) ∧ J all C' w') ∨ ∃ pre, Jx pre C' w')
 have hle : (obs o).length ≤ 16777216 := hR.2.2
 have hGl : ((obs o).drop i).length = (obs o).length - i := List.length_drop
 have hon : on o = (obs o).length := rfl
 refine calls_body 37 [(0, .func (.yield l) #[] #[]), (1, (Pv fb)), (2, (Pv rb))] Try.func65 rfl (by kernel_rfl) (by kernel_rfl) (by kernel_rfl) fun a hS => ?_
 refine sq fun K1 hK1 => ?_
 refine rgn 2 ?_
 refine sg wide_wide [.ld (I6 ↑i), .p] [w.cell? ⟨fb, 0, none⟩ = some (I6 ↑i)] [(0, .func (.yield l) #[] #[]), (1, (Pv fb)), (2, (Pv rb)), (4, I6 ↑i)] 2 0 hS (.cons (hfb.cell 0 rfl) .nil) fun a hS => ?_
 refine seg_end ?_
 refine hK1 _ _ ?_
 refine sq fun K2 hK2 => ?_
 refine rgn 4 ?_
 refine sg wide_wide [.ld ((Pv b)), .ld (I6 ↑i)] [w.cell? ⟨rb, 0, none⟩ = some ((Pv b)), w.cell? ⟨fb, 0, none⟩ = some (I6 ↑i)] [(0, .func (.yield l) #[] #[]), (1, (Pv fb)), (2, (Pv rb)), (4, I6 ↑i), (8, (Pv b)), (9, I6 ↑i)] 2 2 hS (.cons (hrb.cell 0 rfl) (.cons (hfb.cell 0 rfl) .nil)) fun a hS => ?_
 refine eff_call wide_wide (r := 1) (f := 52) (vs := [(Pv b), I6 ↑i]) (cap := #[]) (d := (some 10)) hS (by kernel_rfl) Try.call52 #[(Pv b), I6 ↑i] (by kernel_rfl) (way_any hR hi) ?_
 rintro _ w1 ⟨wb, pv0, lv0, ys0, st0, rfl, hW0, hall0, hbd0, hE0, _⟩
 refine ⟨_, rfl, fun a hS => ?_⟩
 refine sg wide_wide [.p] [] [(0, .func (.yield l) #[] #[]), (1, (Pv fb)), (2, (Pv rb)), (4, I6 ↑i), (5, (Pv wb))] 4 0 hS .nil fun a hS => ?_
 refine seg_end ?_
 refine hK2 _ _ ?_
 refine wpIn_block ?_
 have hI0 : CI J C w (footO o) ((obs o).drop i) wb [] C pv0 lv0 ys0 ys0 st0 w1 := ⟨hW0, hall0, hJ _ _ _ _ _ h0 hE0 (fun b hb => by cases hb), hCl.ext hE0, Fresh.refl _ _, hE0.of0, fun hm => by have h1 := hCl _ hm; have h2 := hW0.wN; omega, fun x hx hm => by have h1 := hCl _ hm; have h2 := hW0.lN x hx; omega⟩
 refine loop_ghost (fun ((pre, C1, pv, lv, ys, st) : List Cv × List Nat × Value × Value × List Int × List Nd) a' w' => St 37 [] [(0, .func (.yield l) #[] #[]), (1, (Pv fb)), (2, (Pv rb)), (4, I6 ((i + (told (pre.map (·.1))).length : Nat) : Int)), (5, (Pv wb))] a' ∧ CI J C w (footO o) ((obs o).drop i) wb pre C1 pv lv ys ys st w') (fun ((pre, C1, pv, lv, ys, st) : List Cv × List Nat × Value × Value × List Int × List Nd) => (rst st).length) ([], C, pv0, lv0, ys0, st0) ⟨hS.keepTo [0, 1, 2, 4, 5] (by kernel_rfl), hI0⟩ ?_
 rintro ⟨pre, C1, pv, lv, ys, st⟩ a w2 ⟨hS, hI⟩
 have hal := congrArg List.length hI.all
 rw [List.length_append, List.length_append, hGl] at hal
 obtain ⟨p, hp⟩ : ∃ p : Int, p = ((i + (told (pre.map (·.1))).length : Nat) : Int) := ⟨_, rfl⟩
 rw [← hp] at hS
 have hW := hI.wy
 obtain ⟨vq, vc, hpv⟩ := hW.rd.form
 obtain ⟨lb, lc, hlv⟩ := hW.own.form
 have hrd : RdV w2 1 (.slice vq ys.length vc) ys.length (bv ys) := by rw [← hpv]; exact hW.rd
 have hB : Blk w2 wb 105 #[.slice vq ys.length vc, lv] := by rw [← hpv]; exact hW.blk
 refine wpIn_block ?_
 refine sq fun K3 hK3 => ?_
 refine sq fun K4 hK4 => ?_
 refine rgn 6 ?_
 refine sg wide_wide [.p, .p, .p, .ld ((.slice vq ys.length vc)), .run (I6 ↑ys.length), .p] [w2.cell? ⟨wb, 0, none⟩ = some ((.slice vq ys.length vc)), Ru Try.prog (vS (Builtin.len_ #[23] 3 #[(.slice vq ys.length vc)])) (I6 ↑ys.length) w2] [(0, .func (.yield l) #[] #[]), (1, (Pv fb)), (2, (Pv rb)), (4, I6 p), (5, (Pv wb)), (16, .bool (decide ((↑ys.length : Int) > 0)))] 6 0 hS (.cons (hB.cell 0 rfl) (.cons (run_len_rd (e := 5) hrd (by kernel_rfl)) .nil)) fun a hS => ?_
 refine seg_end ?_
 refine hK4 _ _ ?_
 refine cond_b hS rfl (fun hb5 => ?_) (fun hb5 => ?_)
 ·
  replace hb5 := of_decide_eq_true hb5
  refine sq fun K6 hK6 => ?_
  refine rgn 6 ?_
  refine sg wide_wide [.p, .p, .p, .ld ((.slice vq ys.length vc)), .run (I6 ↑ys.length), .p] [w2.cell? ⟨wb, 0, none⟩ = some ((.slice vq ys.length vc)), Ru Try.prog (vS (Builtin.len_ #[23] 3 #[(.slice vq ys.length vc)])) (I6 ↑ys.length) w2] [(0, .func (.yield l) #[] #[]), (1, (Pv fb)), (2, (Pv rb)), (4, I6 p), (5, (Pv wb)), (6, I6 ↑ys.length)] 6 0 hS (.cons (hB.cell 0 rfl) (.cons (run_len_rd (e := 5) hrd (by kernel_rfl)) .nil)) fun a hS => ?_
  refine seg_end ?_
  refine hK6 _ _ ?_
  refine sq fun K7 hK7 => ?_
  refine sq fun K8 hK8 => ?_
  refine rgn 9 ?_
  refine sg wide_wide [.p, .p, .p, .p, .p, .ld ((.slice vq ys.length vc))] [w2.cell? ⟨wb, 0, none⟩ = some ((.slice vq ys.length vc))] [(0, .func (.yield l) #[] #[]), (1, (Pv fb)), (2, (Pv rb)), (4, I6 p), (5, (Pv wb)), (6, I6 ↑ys.length), (22, .func (.yield l) #[] #[]), (23, I6 p), (27, (.slice vq ys.length vc))] 6 3 hS (.cons (hB.cell 0 rfl) .nil) fun a hS => ?_
  refine eff_call wide_wide (r := 2) (f := 55) (vs := [(.slice vq ys.length vc)]) (cap := #[]) (d := (some 28)) hS (by kernel_rfl) Try.call55 #[(.slice vq ys.length vc)] (by kernel_rfl) (Clone_any hrd (by omega)) ?_
  rintro _ wc9 ⟨zq9, zc9, rfl, hO9, hN9, hEc9⟩
  refine ⟨_, rfl, fun a hS => ?_⟩
  have hG11 : RdV wc9 1 (.slice vq ys.length vc) ys.length (bv ys) := hrd.ext0 hEc9
  obtain ⟨hk1, hk2, hk3, hk4, hk5⟩ := hI.ahead hJ hEc9 hO9 hN9 (by omega) hp
  refine eff_yield wide_wide (r := 1) (l := l) (vs := ckE ((p, ys), .slice zq9 ys.length zc9)) (cap := #[]) (d := (some 29)) hS (by kernel_rfl) (hY pre ((p, ys), .slice zq9 ys.length zc9) C1 wc9 hk1 hk2 hk3 hI.fr hk4 hk5) fun b w3 a hR3 hS => ?_
  have hP := hI.behind hCT (fun x hx => .inr (.inr (.inr hx))) hEc9 hN9 hR3
  refine sg wide_wide [.p] [] [(0, .func (.yield l) #[] #[]), (1, (Pv fb)), (2, (Pv rb)), (4, I6 p), (5, (Pv wb)), (6, I6 ↑ys.length), (30, .bool (!b))] 9 0 hS .nil fun a hS => ?_
  refine seg_end ?_
  refine hK8 _ _ ?_
  refine cond_b hS rfl (fun hb12 => ?_) (fun hb12 => ?_)
  ·
   replace hb12 := hb12
   obtain rfl : b = false := by simpa using hb12
   refine wpIn_ret ?_
   refine then_ret ?_
   refine then_ret ?_
   refine inBlock_ret ?_
   refine then_ret ?_
   refine inBlock_ret ?_
   refine ret0 hS Try.results65 ?_
   exact ⟨⟨_, rfl⟩, hP⟩
  ·
   replace hb12 := hb12
   obtain rfl : b = true := by simpa using hb12
   obtain ⟨C2, hI2⟩ := hP
   refine wpIn_skip ?_
   refine hK7 _ _ ?_
   refine rgn 4 ?_
   refine sg wide_wide [.p, .p, .as (I6 (p + ↑ys.length)), .p] [Value.int .i64 (IntKind.i64.wrap (p + ↑ys.length)) = I6 (p + ↑ys.length)] [(0, .func (.yield l) #[] #[]), (1, (Pv fb)), (2, (Pv rb)), (4, I6 (p + ↑ys.length)), (5, (Pv wb)), (6, I6 ↑ys.length)] 4 0 hS (.cons (as_i64 (by omega)) .nil) fun a hS => ?_
   refine seg_end ?_
   refine hK3 _ _ ?_
   refine sq fun K13 hK13 => ?_
   by_cases hst : st = []
   ·
    refine rgn 3 ?_
    refine sg wide_wide [.p] [] [(0, .func (.yield l) #[] #[]), (1, (Pv fb)), (2, (Pv rb)), (4, I6 (p + ↑ys.length)), (5, (Pv wb)), (6, I6 ↑ys.length), (34, (Pv wb))] 1 2 hS .nil fun a hS => ?_
    refine eff_call wide_wide (r := 1) (f := 53) (vs := [(Pv wb)]) (cap := #[]) (d := (some 35)) hS (by kernel_rfl) Try.call53 #[(Pv wb)] (by kernel_rfl) (next_f hI2.wy hst) ?_
    rintro _ w9 ⟨rfl, hW9, hE9⟩
    refine ⟨_, rfl, fun a hS => ?_⟩
    refine sg wide_wide [.p] [] [(0, .func (.yield l) #[] #[]), (1, (Pv fb)), (2, (Pv rb)), (4, I6 (p + ↑ys.length)), (5, (Pv wb)), (6, I6 ↑ys.length), (36, .bool true)] 3 0 hS .nil fun a hS => ?_
    refine seg_end ?_
    refine hK13 _ _ ?_
    refine cond_t hS rfl ?_
    refine wpIn_ret ?_
    refine inBlock_ret ?_
    refine then_ret ?_
    refine inBlock_ret ?_
    refine ret0 hS Try.results65 ?_
    exact ⟨⟨_, rfl⟩, (by subst hst; exact hI2.end_ hJ hE9)⟩
   ·
    refine rgn 3 ?_
    refine sg wide_wide [.p] [] [(0, .func (.yield l) #[] #[]), (1, (Pv fb)), (2, (Pv rb)), (4, I6 (p + ↑ys.length)), (5, (Pv wb)), (6, I6 ↑ys.length), (34, (Pv wb))] 1 2 hS .nil fun a hS => ?_
    refine eff_call wide_wide (r := 1) (f := 53) (vs := [(Pv wb)]) (cap := #[]) (d := (some 35)) hS (by kernel_rfl) Try.call53 #[(Pv wb)] (by kernel_rfl) (next_t hI2.wy hst (by omega)) ?_
    rintro _ w9 ⟨rfl, pv9, lv9, ys9, st9, hW9, ha9, hb9, hE9, hF9, hz9⟩
    refine ⟨_, rfl, fun a hS => ?_⟩
    have hI9 := hI2.on_ hJ hW9 ha9 hE9 hF9
    have hal9 := congrArg List.length ha9
    rw [List.length_append] at hal9
    have hys9 := List.length_pos_iff.2 (hz9 trivial)
    refine sg wide_wide [.p] [] [(0, .func (.yield l) #[] #[]), (1, (Pv fb)), (2, (Pv rb)), (4, I6 (p + ↑ys.length)), (5, (Pv wb)), (6, I6 ↑ys.length), (36, .bool false)] 3 0 hS .nil fun a hS => ?_
    refine seg_end ?_
    refine hK13 _ _ ?_
    refine cond_f hS rfl ?_
    refine wpIn_skip ?_
    refine inBlock_normal ?_
    have hq : p + ↑ys.length = ((i + (told ((pre ++ [((p, ys), Value.slice zq9 ys.length zc9)]).map (·.1))).length : Nat) : Int) := by
     rw [hp]; simp [told]; omega
    rw [hq] at hS
    exact ⟨(pre ++ [((p, ys), Value.slice zq9 ys.length zc9)], C2, pv9, lv9, ys9, st9), ⟨hS.kp [(0, .func (.yield l) #[] #[]), (1, (Pv fb)), (2, (Pv rb)), (4, I6 ((i + (told ((pre ++ [((p, ys), Value.slice zq9 ys.length zc9)]).map (·.1))).length : Nat) : Int)), (5, (Pv wb))], hI9⟩, by simp only; omega⟩
 ·
  replace hb5 := of_decide_eq_false hb5
  have hys : ys = [] := List.eq_nil_of_length_eq_zero (by omega)
  have hI2 : CI J C w (footO o) ((obs o).drop i) wb pre C1 pv lv ys [] st w2 := ⟨hI.wy, by have h := hI.all; rw [hys] at h; exact h, hI.j, hI.lie, hI.fr, hI.ext, hI.wn, hI.ln⟩
  refine wpIn_skip ?_
  refine hK3 _ _ ?_
  refine sq fun K14 hK14 => ?_
  by_cases hst : st = []
  ·
   refine rgn 3 ?_
   refine sg wide_wide [.p] [] [(0, .func (.yield l) #[] #[]), (1, (Pv fb)), (2, (Pv rb)), (4, I6 p), (5, (Pv wb)), (34, (Pv wb))] 1 2 hS .nil fun a hS => ?_
   refine eff_call wide_wide (r := 1) (f := 53) (vs := [(Pv wb)]) (cap := #[]) (d := (some 35)) hS (by kernel_rfl) Try.call53 #[(Pv wb)] (by kernel_rfl) (next_f hI2.wy hst) ?_
   rintro _ w9 ⟨rfl, hW9, hE9⟩
   refine ⟨_, rfl, fun a hS => ?_⟩
   refine sg wide_wide [.p] [] [(0, .func (.yield l) #[] #[]), (1, (Pv fb)), (2, (Pv rb)), (4, I6 p), (5, (Pv wb)), (36, .bool true)] 3 0 hS .nil fun a hS => ?_
   refine seg_end ?_
   refine hK14 _ _ ?_
   refine cond_t hS rfl ?_
   refine wpIn_ret ?_
   refine inBlock_ret ?_
   refine then_ret ?_
   refine inBlock_ret ?_
   refine ret0 hS Try.results65 ?_
   exact ⟨⟨_, rfl⟩, (by subst hst; exact hI2.end_ hJ hE9)⟩
  ·
   refine rgn 3 ?_
   refine sg wide_wide [.p] [] [(0, .func (.yield l) #[] #[]), (1, (Pv fb)), (2, (Pv rb)), (4, I6 p), (5, (Pv wb)), (34, (Pv wb))] 1 2 hS .nil fun a hS => ?_
   refine eff_call wide_wide (r := 1) (f := 53) (vs := [(Pv wb)]) (cap := #[]) (d := (some 35)) hS (by kernel_rfl) Try.call53 #[(Pv wb)] (by kernel_rfl) (next_t hI2.wy hst (by omega)) ?_
   rintro _ w9 ⟨rfl, pv9, lv9, ys9, st9, hW9, ha9, hb9, hE9, hF9, hz9⟩
   refine ⟨_, rfl, fun a hS => ?_⟩
   have hI9 := hI2.on_ hJ hW9 ha9 hE9 hF9
   have hal9 := congrArg List.length ha9
   rw [List.length_append] at hal9
   have hys9 := List.length_pos_iff.2 (hz9 trivial)
   refine sg wide_wide [.p] [] [(0, .func (.yield l) #[] #[]), (1, (Pv fb)), (2, (Pv rb)), (4, I6 p), (5, (Pv wb)), (36, .bool false)] 3 0 hS .nil fun a hS => ?_
   refine seg_end ?_
   refine hK14 _ _ ?_
   refine cond_f hS rfl ?_
   refine wpIn_skip ?_
   refine inBlock_normal ?_
   have hq : p = ((i + (told ((pre).map (·.1))).length : Nat) : Int) := by
    rw [hp]
   rw [hq] at hS
   exact ⟨(pre, C1, pv9, lv9, ys9, st9), ⟨hS.kp [(0, .func (.yield l) #[] #[]), (1, (Pv fb)), (2, (Pv rb)), (4, I6 ((i + (told ((pre).map (·.1))).length : Nat) : Int)), (5, (Pv wb))], hI9⟩, by simp only; omega⟩

end Go.Proofs.Ytkdbfjomjlhfbaa
