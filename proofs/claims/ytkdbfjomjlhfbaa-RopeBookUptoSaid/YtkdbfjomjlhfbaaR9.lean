import Derived.Test.YtkdbfjomjlhfbaaProg
import Derived.Test.YtkdbfjomjlhfbaaWy
namespace Go.Proofs.Ytkdbfjomjlhfbaa
open Go.Vc
set_option linter.unusedSectionVars false
variable [Inhabited Zt]

theorem down_any {F : Nat → Prop} {p : Prop} {N wb i0 : Nat} {pv0 lv0 : Value} {G : List Int} {t0 : Nd} {st0 : List Nd} {w : World} (hD0 : Dn F p N w lv0 wb pv0 G t0 i0 lv0 st0 w) :
  Calls Try.prog 66 #[(Pv wb), (Pv t0.b), I6 ↑i0] w fun e w' => e = .returned (.tuple #[]) ∧ DnR F p N w lv0 wb G w' := by
 refine calls_body 56 [(0, (Pv wb)), (1, (Pv t0.b)), (2, I6 ↑i0)] Try.func66 rfl (by kernel_rfl) (by kernel_rfl) (by kernel_rfl) fun a hS => ?_
 refine sq fun K1 hK1 => ?_
 refine wpIn_block ?_
 refine loop_ghost (fun ((t, i, lv, st) : Nd × Nat × Value × List Nd) a' w' => St 56 [] [(0, (Pv wb)), (1, (Pv t.b)), (2, I6 ↑i)] a' ∧ Dn F p N w lv0 wb pv0 G t i lv st w') (fun ((t, i, lv, st) : Nd × Nat × Value × List Nd) => t.hg) (t0, i0, lv0, st0) ⟨hS.keepTo [0, 1, 2] (by kernel_rfl), hD0⟩ ?_
 rintro ⟨t, i, lv, st⟩ a w1 ⟨hS, hD⟩
 obtain ⟨bs, cap, rfl⟩ := hD.own.form
 have hlen := rst_len st hD.ok
 have hbd := hD.bd
 have hle := hD.le
 have hmx := hD.tok.high
 refine sq fun K2 hK2 => ?_
 refine sq fun K3 hK3 => ?_
 refine rgn 5 ?_
 refine sg wide_wide [.p, .p, .p, .ld (I6 ↑t.hg), .p] [w1.cell? ⟨t.b, 5, none⟩ = some (I6 ↑t.hg)] [(0, (Pv wb)), (1, (Pv t.b)), (2, I6 ↑i), (11, .bool (decide ((↑t.hg : Int) > 0)))] 5 0 hS (.cons ((hD.tok.blk).cell 5 rfl) .nil) fun a hS => ?_
 refine seg_end ?_
 refine hK3 _ _ ?_
 refine cond_b hS rfl (fun hb4 => ?_) (fun hb4 => ?_)
 ·
  replace hb4 := of_decide_eq_true hb4
  obtain ⟨l, r, hC, hl, hr, hnn, hbs, hhg, hfl, hfr⟩ := hD.tok.twoF (by omega)
  refine wpIn_skip ?_
  refine hK2 _ _ ?_
  refine wpIn_block ?_
  refine sq fun K5 hK5 => ?_
  refine rgn 9 ?_
  refine sg wide_wide [.p, .p, .p, .ld ((Pv l.b)), .p, .p, .p, .ld (I6 ↑l.n), .p] [w1.cell? ⟨t.b, 0, none⟩ = some ((Pv l.b)), w1.cell? ⟨l.b, 3, none⟩ = some (I6 ↑l.n)] [(0, (Pv wb)), (1, (Pv t.b)), (2, I6 ↑i), (6, I6 ↑l.n)] 9 0 hS (.cons (hC.cell 0 rfl) (.cons ((hl.blk).cell 3 rfl) .nil)) fun a hS => ?_
  refine seg_end ?_
  refine hK5 _ _ ?_
  refine sq fun K6 hK6 => ?_
  refine rgn 3 ?_
  refine sg wide_wide [.p, .p, .p] [] [(0, (Pv wb)), (1, (Pv t.b)), (2, I6 ↑i), (6, I6 ↑l.n), (22, .bool (decide ((↑i : Int) ≥ ↑l.n)))] 3 0 hS .nil fun a hS => ?_
  refine seg_end ?_
  refine hK6 _ _ ?_
  refine cond_b hS rfl (fun hb7 => ?_) (fun hb7 => ?_)
  ·
   replace hb7 := of_decide_eq_true hb7
   have hci : (i : Int) - (l.n : Int) = ((i - l.n : Nat) : Int) := by omega
   refine rgn 9 ?_
   refine sg wide_wide [.p, .p, .p, .ld ((Pv r.b)), .p, .p, .as (I6 (↑i - ↑l.n)), .p, .p] [w1.cell? ⟨t.b, 1, none⟩ = some ((Pv r.b)), Value.int .i64 (IntKind.i64.wrap (↑i - ↑l.n)) = I6 (↑i - ↑l.n)] [(0, (Pv wb)), (1, (Pv r.b)), (2, I6 (↑i - ↑l.n)), (6, I6 ↑l.n)] 9 0 hS (.cons (hC.cell 1 rfl) (.cons (as_i64 (by omega)) .nil)) fun a hS => ?_
   refine seg_end ?_
   refine inBlock_normal ?_
   rw [hci] at hS
   exact ⟨(r, i - l.n, _, st), ⟨hS.kp [(0, (Pv wb)), (1, (Pv r.b)), (2, I6 ((i - l.n : Nat) : Int))], hD.right hr (fun x hx => hD.tN x (hfr x hx)) hnn hbs (by omega)⟩, by simp only; omega⟩
  ·
   replace hb7 := of_decide_eq_false hb7
   refine sq fun K8 hK8 => ?_
   obtain ⟨ga9, ca9, wa9, hra9, hOa9, hEa9, hFa9⟩ := append_any (P := Try.prog) (w := (w1.drew).alloc (.cells #[(Pv r.b)] 81)) (t := 103) (ty := 103) (e := 81) (size := 1) (bytes := 8) (n := st.length) (b := w1.heap.size) (off := 0) (k := 1) (c := 1) (z := #[.pointer none]) (v := Value.slice bs st.length cap) (xs := (st.map Nd.ptr)) (news := [(Pv r.b)]) (by kernel_rfl) (by kernel_rfl) rfl (by decide) ((hD.own.drew).alloc _ : OwnV ((w1.drew).alloc (.cells #[(Pv r.b)] 81)) 81 1 (.slice bs st.length cap) st.length (st.map Nd.ptr)) (by simp) (fun j u hu => by rw [Nat.zero_add]; exact (Blk.new' _ _ _ (by first | rfl | simp [upd_size]) : Blk ((w1.drew).alloc (.cells #[(Pv r.b)] 81)) w1.heap.size 81 (#[(Pv r.b)])).cell j (by simpa using hu)) rfl (by omega) (by simp only [maxLen]; omega) (by omega)
   refine region_fn2 wide_wide [.q .p, .q .p, .q .p, .q .p, .q (.ld (.slice bs st.length cap)), .q .p, .q .p, .q .p, .q (.ld ((Pv r.b))), .e, .e, .q .p, .q .p, .e] [0, 0, 0, 0, 0, 0, 0, 0, 0, 0, 1, 2, 2, 2] [2, 1, 1, 1, 1, 0, 0, 0, 0, 0, 1, 2, 2, 2] [0, 0, 2, 6, 14, 0, 32, 96, 224, 480, 1022, 2047, 4095, 8191] [9, 10, 13] 3 ([(0, (Pv wb)), (1, (Pv t.b)), (2, I6 ↑i), (6, I6 ↑l.n), (30, (Pv wb)), (31, (Pv wb)), (32, (Pv wb)), (33, (Po wb 1)), (34, .slice bs st.length cap), (35, (Pv t.b)), (36, (Pv t.b)), (37, (Po t.b 1)), (38, (Pv r.b)), (39, .slice (some ⟨w1.heap.size, 0, none⟩) 1 1), (40, .slice (some ⟨ga9, 0, none⟩) (st.length + 1) ca9), (41, (Pv wb)), (42, (Po wb 1))]) [w1.drew, (w1.drew).alloc (.cells #[(Pv r.b)] 81), wa9, upd (wa9) (wb) 105 #[pv0, .slice (some ⟨ga9, 0, none⟩) (st.length + 1) ca9]] w1.drew (fun w' => [(4, [w'.cell? ⟨wb, 1, none⟩ = some (.slice bs st.length cap)]), (8, [w'.cell? ⟨t.b, 1, none⟩ = some ((Pv r.b))])]) [0, 1, 2, 6] [] hS (by kernel_rfl) (by kernel_rfl) (by kernel_rfl) (by kernel_rfl) (fun _ => by kernel_rfl) (by kernel_rfl) (by kernel_rfl) (by kernel_rfl) ?_ ?_ ?_
   ·intro e w' hw
    refine (.cons ?_ (.cons ?_ .nil))
    ·intro h1 h2
     replace h1 : 0 ≤ e := h1
     replace h2 : e ≤ 1 := h2
     have he : e = 0 ∨ e = 1 := by omega
     rcases he with rfl | rfl
     ·obtain rfl : w' = w1.drew := hw.trans (by kernel_rfl)
      exact (.cons ((hD.blk.drew : Blk w1.drew wb 105 (#[pv0, .slice bs st.length cap])).cell 1 rfl) .nil)
     ·obtain rfl : w' = (w1.drew).alloc (.cells #[(Pv r.b)] 81) := hw.trans (by kernel_rfl)
      exact (.cons (((hD.blk.drew).alloc _ : Blk ((w1.drew).alloc (.cells #[(Pv r.b)] 81)) wb 105 (#[pv0, .slice bs st.length cap])).cell 1 rfl) .nil)
    ·intro h1 h2
     obtain rfl : e = 0 := Nat.le_antisymm h2 h1
     obtain rfl : w' = w1.drew := hw.trans (by kernel_rfl)
     exact (.cons ((hC.drew : Blk w1.drew t.b 89 (#[(Pv l.b), (Pv r.b), .slice none 0 0, I6 ↑t.n, I6 ↑t.rw, I6 ↑t.hg])).cell 1 rfl) .nil)
   ·refine (.cons ?eq10_9 (.cons ?eq10_10 (.cons ?eq10_13 .nil)))
    ·refine eff_at (w1.drew) ((w1.drew).alloc (.cells #[(Pv r.b)] 81)) (by kernel_rfl) (by kernel_rfl) ?_
     exact upon_new (nb := w1.heap.size) (cs := #[(Pv r.b)]) (T := 81) (v := Value.slice (some ⟨w1.heap.size, 0, none⟩) 1 1) (d := (some 39)) (by kernel_rfl) (by first | rfl | simp [upd_size]) ⟨by kernel_rfl, by kernel_rfl⟩
    ·refine eff_at ((w1.drew).alloc (.cells #[(Pv r.b)] 81)) (wa9) (by kernel_rfl) (by kernel_rfl) ?_
     exact upon_run (s := vS (Builtin.append_ #[103, 103] 103 #[Value.slice bs st.length cap, Value.slice (some ⟨w1.heap.size, 0, none⟩) 1 1])) (d := (some 40)) (v := Value.slice (some ⟨ga9, 0, none⟩) (st.length + 1) ca9) (by kernel_rfl) (vS_run hra9) ⟨by kernel_rfl, by kernel_rfl⟩
    ·refine eff_at (wa9) (upd (wa9) (wb) 105 #[pv0, .slice (some ⟨ga9, 0, none⟩) (st.length + 1) ca9]) (by kernel_rfl) (by kernel_rfl) ?_
     exact upon_store (b := wb) (off := 1) (vs := [.slice (some ⟨ga9, 0, none⟩) (st.length + 1) ca9]) (by kernel_rfl) ((((hD.blk.drew).alloc _ : Blk ((w1.drew).alloc (.cells #[(Pv r.b)] 81)) wb 105 (#[pv0, .slice bs st.length cap]))).ext hEa9 (OwnV.notin ((hD.own.drew).alloc _ : OwnV ((w1.drew).alloc (.cells #[(Pv r.b)] 81)) 81 1 (.slice bs st.length cap) st.length (st.map Nd.ptr)) ((hD.blk.drew).alloc _ : Blk ((w1.drew).alloc (.cells #[(Pv r.b)] 81)) wb 105 (#[pv0, .slice bs st.length cap])) (by decide)) : Blk wa9 wb 105 (#[pv0, .slice bs st.length cap])) (by simp) ⟨by kernel_rfl, by kernel_rfl⟩
   rintro a w11 hS hw12
   replace hw12 : w11 = upd (wa9) (wb) 105 #[pv0, .slice (some ⟨ga9, 0, none⟩) (st.length + 1) ca9] := hw12.trans (by kernel_rfl)
   have hB13 := Blk.at' hw12 (((((hC.drew).alloc _ : Blk ((w1.drew).alloc (.cells #[(Pv r.b)] 81)) t.b 89 (#[(Pv l.b), (Pv r.b), .slice none 0 0, I6 ↑t.n, I6 ↑t.rw, I6 ↑t.hg]))).ext hEa9 (OwnV.notin ((hD.own.drew).alloc _ : OwnV ((w1.drew).alloc (.cells #[(Pv r.b)] 81)) 81 1 (.slice bs st.length cap) st.length (st.map Nd.ptr)) ((hC.drew).alloc _ : Blk ((w1.drew).alloc (.cells #[(Pv r.b)] 81)) t.b 89 (#[(Pv l.b), (Pv r.b), .slice none 0 0, I6 ↑t.n, I6 ↑t.rw, I6 ↑t.hg])) (by decide))).updNe (Blk.ne_type hD.blk hC (by decide)) _ _)
   have hB14 : Blk w11 wb 105 (#[pv0, .slice (some ⟨ga9, 0, none⟩) (st.length + 1) ca9]) := by rw [hw12]; exact ((((hD.blk.drew).alloc _ : Blk ((w1.drew).alloc (.cells #[(Pv r.b)] 81)) wb 105 (#[pv0, .slice bs st.length cap]))).ext hEa9 (OwnV.notin ((hD.own.drew).alloc _ : OwnV ((w1.drew).alloc (.cells #[(Pv r.b)] 81)) 81 1 (.slice bs st.length cap) st.length (st.map Nd.ptr)) ((hD.blk.drew).alloc _ : Blk ((w1.drew).alloc (.cells #[(Pv r.b)] 81)) wb 105 (#[pv0, .slice bs st.length cap])) (by decide))).upd _ _
   have hB16 : OwnR w11 81 1 ga9 ca9 (st.length + 1) ((st.map Nd.ptr) ++ [(Pv r.b)]) := by rw [hw12]; exact (hOa9).updNe ((OwnR.ne_type hOa9 ((((hD.blk.drew).alloc _ : Blk ((w1.drew).alloc (.cells #[(Pv r.b)] 81)) wb 105 (#[pv0, .slice bs st.length cap]))).ext hEa9 (OwnV.notin ((hD.own.drew).alloc _ : OwnV ((w1.drew).alloc (.cells #[(Pv r.b)] 81)) 81 1 (.slice bs st.length cap) st.length (st.map Nd.ptr)) ((hD.blk.drew).alloc _ : Blk ((w1.drew).alloc (.cells #[(Pv r.b)] 81)) wb 105 (#[pv0, .slice bs st.length cap])) (by decide))) (by decide)).symm) _ _
   have hX17 : Ext (ob (Value.slice bs st.length cap) ++ [wb]) w1 w11 := by rw [hw12]; exact ((((Ext.refl _ _).drew).alloc _).trans hEa9 (fun b hb => .inl (by simp [hb]))).updIn (.inl (by simp)) _ _
   have hG18 : Ext (wb :: ob (.slice bs st.length cap)) w1 w11 := (Ext.refl (wb :: ob (.slice bs st.length cap)) w1).trans hX17 (fun b hb => .inl (mem_wy hb))
   replace hS := hS.kp [(0, (Pv wb)), (1, (Pv t.b)), (2, I6 ↑i), (6, I6 ↑l.n)]
   refine hK8 _ _ ?_
   refine rgn 5 ?_
   refine sg wide_wide [.p, .p, .p, .ld ((Pv l.b)), .p] [w11.cell? ⟨t.b, 0, none⟩ = some ((Pv l.b))] [(0, (Pv wb)), (1, (Pv l.b)), (2, I6 ↑i), (6, I6 ↑l.n)] 5 0 hS (.cons (hB13.cell 0 rfl) .nil) fun a hS => ?_
   refine seg_end ?_
   refine inBlock_normal ?_
   exact ⟨(l, i, _, st ++ [r]), ⟨hS.kp [(0, (Pv wb)), (1, (Pv l.b)), (2, I6 ↑i)], hD.push hl (fun x hx => hD.tN x (hfl x hx)) hr (fun x hx => hD.tN x (hfr x hx)) hnn hbs (by omega) hB14 hB16.v hG18 (hFa9.mono (by simp))⟩, by simp only; omega⟩
 ·
  replace hb4 := of_decide_eq_false hb4
  obtain ⟨v, hC, hv, hvf⟩ := hD.tok.one (by omega)
  obtain ⟨vq, vc, rfl⟩ := hv.form
  have hB : Blk w1 t.b 89 #[.pointer none, .pointer none, (.slice vq t.n vc), I6 ↑t.n, I6 ↑t.rw, I6 ↑t.hg] := hC
  refine wpIn_exit ?_
  refine then_exit ?_
  refine then_exit ?_
  refine inBlock_hit ?_
  refine hK1 _ _ ?_
  refine rgn 10 ?_
  refine sg wide_wide [.p, .p, .p, .p, .ld ((.slice vq t.n vc)), .p, .run (rsub (.slice vq t.n vc) i t.n (capOf (.slice vq t.n vc))), .p, .p] [w1.cell? ⟨t.b, 2, none⟩ = some ((.slice vq t.n vc)), Ru Try.prog (vS (Instr.sliceAt 23 (.slice vq t.n vc) (some (I6 ↑i)) none none)) (rsub (.slice vq t.n vc) i t.n (capOf (.slice vq t.n vc))) w1] [(0, (Pv wb)), (1, (Pv t.b)), (2, I6 ↑i), (53, (rsub (.slice vq t.n vc) i t.n (capOf (.slice vq t.n vc)))), (55, (Pv wb))] 9 1 hS (.cons (hB.cell 2 rfl) (.cons (sl_rd (e := 5) (some (I6 ↑i)) none (l := i) (k := t.n) hv (by kernel_rfl) (by kernel_rfl) (.inr ⟨_, rfl⟩) (.inl ⟨rfl, rfl⟩) (by omega) (by omega)) .nil)) fun a hS => ?_
  refine eff_store wide_wide (r := 0) (b := wb) (off := 0) (vs := [(rsub (.slice vq t.n vc) i t.n (capOf (.slice vq t.n vc)))]) hS (by kernel_rfl) hD.blk (by simp) fun a w19 hw20 hS => ?_
  have hB22 : Blk w19 wb 105 (#[(rsub (.slice vq t.n vc) i t.n (capOf (.slice vq t.n vc))), .slice bs st.length cap]) := by rw [hw20]; exact hD.blk.upd _ _
  have hB23 := OwnV.at' hw20 (hD.own.updNe (OwnV.ne hD.own hD.blk (by decide)) _ _)
  have hX24 : Ext [wb] w1 w19 := by rw [hw20]; exact (Ext.refl _ _).updIn (.inl (by simp)) _ _
  have hG25 : Ext (wb :: ob (.slice bs st.length cap)) w1 w19 := (Ext.refl (wb :: ob (.slice bs st.length cap)) w1).trans hX24 (fun b hb => .inl (mem_wy1 hb))
  have hG26 : True := trivial
  have hG27 : True := trivial
  refine seg_end ?_
  refine end0 hS Try.results66 ?_
  exact ⟨rfl, hD.done hv hvf hB22 hB23 hG25⟩

end Go.Proofs.Ytkdbfjomjlhfbaa
