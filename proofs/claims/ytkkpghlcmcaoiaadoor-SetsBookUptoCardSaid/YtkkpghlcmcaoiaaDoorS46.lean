import Derived.Test.YtkkpghlcmcaoiaaDoorS45
import Derived.Test.YtkkpghlcmcaoiaaDoorLe
namespace Go.Proofs.YtkkpghlcmcaoiaaDoor
open Go.Vc Go.Gm
set_option maxHeartbeats 4000000 in
theorem Lend_any {w0 w : World} {S : Sp} (hG : SpOk w0 S) (hb : Ext [] w0 w) {xs : List Ex} (hX : PatOk w0 S xs) :
  Calls Tryd.prog 13 #[.agg S.ca] w fun e w' => ∃ gl gn gp ls qs, e = .returned (.agg #[(lentS S gl gn gp ls qs).lv, (lentS S gl gn gp ls qs).nv, I6 (lentS S gl gn gp ls qs).st, (lentS S gl gn gp ls qs).pv]) ∧ LentOk w' w.heap.size S xs gl gn gp ls qs ∧ Ext [] w w' := by
 have hlmax := hG.lmax
 have hnmax := hG.nmax
 have hpmax := hG.pmax
 have hxl := hX.len
 refine cbd 132 [(0, .agg S.ca)] Tryd.func13 rfl fun a hS => ?_
 have hE0 : Ext [] w w := Ext.refl _ _
 refine sq fun K1 hK1 => rgn 2 <| ebx 1 S.ca 26 (some 1) hS fun a w2 hw3 hS => ?_
 have hB4 := Blk.nw hw3
 have hs5 := hE0.size
 have hE6 := hE0.al hw3
 refine ebx 0 #[.slice none 0 0, .slice none 0 0, I6 0, .slice none 0 0] 26 (some 2) hS fun a w7 hw8 hS => ?_
 have hB10 := Blk.at' hw8 (hB4.alloc _)
 have hB11 := Blk.nw hw8
 have hs12 := hE6.size
 have hE13 := hE6.al hw8
 refine sge hK1 <| sq fun K14 hK14 => rgn 6 <| sd ww [.p, .ld (S.lv), .run (I6 S.lx.length), .as (I6 ((S.lx.length + 1 : Nat) : Int))] [_, Rv (Builtin.len_ #[22] 3 #[S.lv]) (I6 S.lx.length) w7, Value.int .i64 (IntKind.i64.wrap (↑S.lx.length + 1)) = I6 ((S.lx.length + 1 : Nat) : Int)] [(13, I6 ((S.lx.length + 1 : Nat) : Int))] [] 4 2 hS (hB10.k 0 (.c (rlr 100 hG.lex) (.c ((by rw [show (↑S.lx.length + 1 : Int) = ((S.lx.length + 1 : Nat) : Int) from by omega]; exact as_i64 (by omega))) .nil))) fun a hS => ?_
 obtain ⟨wm15, xm15, hrm15, hOm15, hEm15, hsm15⟩ := make_lenN (P := Tryd.prog) (w := w7) (T := 22) (E := 100) (size := 8) (bytes := 88) (z := #[.string ⟨#[]⟩, .bool false, I6 0, I6 0, I6 0, I6 0, I6 0, .slice none 0 0]) (l := (S.lx.length + 1)) (by kernel_rfl) (by kernel_rfl) (by omega) (by omega)
 refine eff_run ww (r := 1) (s := vS (Instr.makeSlice 22 (I6 ((S.lx.length + 1 : Nat) : Int)) (I6 ((S.lx.length + 1 : Nat) : Int)))) (d := (some 14)) (v := Sl w7.heap.size (S.lx.length + 1) (S.lx.length + 1)) hS (by kernel_rfl) hrm15 fun a hS => ?_
 have hn15_15 := Nat.ne_of_lt hB10.lt
 have hn15_16 := Nat.ne_of_lt hB11.lt
 have hB18 := hB10.ext hEm15 (by simp)
 have hB19 := hB11.ext hEm15 (by simp)
 have hE20 := hE13.trans0 hEm15
 have hxm15 : xm15.length = (S.lx.length + 1) * 8 := hOm15.len
 refine sd ww [.p] [] [(3, Sl w7.heap.size (S.lx.length + 1) (S.lx.length + 1))] [] 6 0 hS .nil fun a hS => sge hK14 <| sq fun K21 hK21 => sdq 1 [.p] [] [(4, I6 0)] [] hS .nil fun a hS => wpIn_block ?_
 have hglN : ∀ x ∈ ([w7.heap.size] : List Nat), x < wm15.heap.size := fun x hx => by simp at hx; rw [hx, hsm15]; exact Nat.lt_succ_self _
 have h2N1 : w2.heap.size < wm15.heap.size := hB19.lt
 have hbl23 := (hb.trans0 hE20)
 refine loop_ghost (fun ((i, ls) : Nat × (List Lx)) a' w' => St 132 [] [(1, (Pv w.heap.size)), (2, (Pv w2.heap.size)), (3, Sl w7.heap.size (S.lx.length + 1) (S.lx.length + 1)), (4, I6 i)] a' ∧ Ext [w7.heap.size] wm15 w' ∧ i ≤ S.lx.length ∧ OwnR w' 100 8 (w7.heap.size) (S.lx.length + 1) (S.lx.length + 1) (lcells ls ++ xm15.drop (i * 8)) ∧ LxsOk w' wm15.heap.size S xs i ls) (fun ((i, ls) : Nat × (List Lx)) => S.lx.length - i) (0, []) ⟨hS.keepTo [1, 2, 3, 4] (by kernel_rfl), Ext.refl _ _, by omega, (by rw [Nat.zero_mul]; exact hOm15), .start _ _ _ _⟩ ?_
 rintro ⟨i, ls⟩ a wl23 ⟨hS, hXl23, hi, hgk, hL⟩
 have hB24 := hB18.ext hXl23 (by simpa using hn15_15)
 have hB25 := hB19.ext hXl23 (by simpa using hn15_16)
 refine sq fun K26 hK26 => sdq 5 [.p, .p, .ld (S.lv), .run (I6 S.lx.length), .p] [_, Rv (Builtin.len_ #[22] 3 #[S.lv]) (I6 S.lx.length) wl23] [(19, .bool (decide ((↑i : Int) < ↑S.lx.length)))] [] hS (hB24.k 0 (.c (rlr 100 hG.lex) .nil)) fun a hS => ?_
 refine cond_b hS rfl (fun hb28 => ?_) (fun hb28 => ?_)
 ·
  replace hb28 := of_decide_eq_true hb28
  obtain ⟨lr, hlr⟩ : ∃ lr, S.lx[i]? = some lr := gE
  obtain ⟨x, hx⟩ : ∃ x, xs[i]? = some x := gE
  have hlc := hX.is i lr x hlr hx
  have hxo := hX.ok x (List.mem_of_getElem? hx)
  have hN1 : wm15.heap.size ≤ wl23.drew.heap.size := (hXl23.drew).size
  have hzl := hgk.len
  refine wpIn_skip <| hK26 _ _ <| sq fun K29 hK29 => wpIn_block ?_
  refine gh3 (G := (Option Addr) × Nat × Nat × World × World) [.q .p, .q .p, .q .p, .q (.ld (S.lv)), .q .p, .q (.run ((Po (bof S.lv) (oof S.lv + i * 8)))), .q .p, .q (.ld (.string lr.nm)), .q .p, .q (.ld (S.lv)), .q .p, .q (.run ((Po (bof S.lv) (oof S.lv + i * 8)))), .q .p, .q (.ld (.bool lr.tr)), .q .p, .q (.ld (S.lv)), .q .p, .q (.run ((Po (bof S.lv) (oof S.lv + i * 8)))), .q .p, .q (.lds [I6 x.kd, I6 x.fr, I6 x.to, I6 x.mi, I6 x.ma, x.ls]), .e, .q .p, .q (.run ((Po w7.heap.size (0 + i * 8)))), .e] [0, 0, 0, 0, 0, 0, 0, 0, 0, 0, 0, 0, 0, 0, 0, 0, 0, 0, 0, 0, 0, 1, 1, 1] [1, 1, 1, 1, 1, 1, 1, 1, 1, 1, 1, 1, 1, 1, 0, 0, 0, 0, 0, 0, 0, 1, 1, 1] [0, 0, 0, 4, 0, 28, 60, 124, 0, 256, 0, 1792, 3840, 7936, 0, 16384, 0, 114688, 245760, 507904, 1032192, 2097148, 4194303, 8388607] [20, 23] [(20, 0), (23, 1)] 2 (fun ⟨va30, vn30, vc30, wc30, ws31⟩ => ([(1, (Pv w.heap.size)), (2, (Pv w2.heap.size)), (3, Sl w7.heap.size (S.lx.length + 1) (S.lx.length + 1)), (4, I6 i), (19, .bool (decide ((↑i : Int) < ↑S.lx.length))), (22, Sl w7.heap.size (S.lx.length + 1) (S.lx.length + 1)), (23, I6 i), (24, (Pv w.heap.size)), (25, S.lv), (26, I6 i), (27, (Po (bof S.lv) (oof S.lv + i * 8))), (28, (Po (bof S.lv) (oof S.lv + i * 8))), (29, .string lr.nm), (30, (Pv w.heap.size)), (31, S.lv), (32, I6 i), (33, (Po (bof S.lv) (oof S.lv + i * 8))), (34, (Po (bof S.lv) (oof S.lv + i * 8 + 1))), (35, .bool lr.tr), (36, (Pv w.heap.size)), (37, S.lv), (38, I6 i), (39, (Po (bof S.lv) (oof S.lv + i * 8))), (40, (Po (bof S.lv) (oof S.lv + i * 8 + 2))), (41, .agg #[I6 x.kd, I6 x.fr, I6 x.to, I6 x.mi, I6 x.ma, x.ls]), (42, .agg #[I6 x.kd, I6 x.fr, I6 x.to, I6 x.mi, I6 x.ma, .slice va30 vn30 vc30]), (43, .agg #[.string lr.nm, .bool lr.tr, I6 x.kd, I6 x.fr, I6 x.to, I6 x.mi, I6 x.ma, .slice va30 vn30 vc30]), (44, (Po w7.heap.size (0 + i * 8)))] : Fm)) (fun ⟨va30, vn30, vc30, wc30, ws31⟩ => [wl23.drew, wc30, ws31]) (wl23.drew) (fun e ⟨va30, vn30, vc30, wc30, ws31⟩ => hAt [True, (TwE wc30 wl23.drew.heap.size (.slice va30 vn30 vc30) x) ∧ (Ext [] wl23.drew wc30) ∧ True, (TwE wc30 wl23.drew.heap.size (.slice va30 vn30 vc30) x) ∧ (Ext [] wl23.drew wc30) ∧ (OwnR ws31 100 8 w7.heap.size (S.lx.length + 1) (S.lx.length + 1) (setL (lcells ls ++ xm15.drop (i * 8)) (0 + i * 8) [.string lr.nm, .bool lr.tr, I6 x.kd, I6 x.fr, I6 x.to, I6 x.mi, I6 x.ma, .slice va30 vn30 vc30])) ∧ (Ext [w7.heap.size] wc30 ws31) ∧ True] e) (fun ⟨va30, vn30, vc30, wc30, ws31⟩ w' => [(3, [w'.cell? ⟨w.heap.size, 0, none⟩ = some (S.lv)]), (5, [Rv (Instr.indexAt 22 (S.lv) (I6 i)) ((Po (bof S.lv) (oof S.lv + i * 8))) w']), (7, [w'.cell? ⟨bof S.lv, oof S.lv + i * 8, none⟩ = some (.string lr.nm)]), (9, [w'.cell? ⟨w.heap.size, 0, none⟩ = some (S.lv)]), (11, [Rv (Instr.indexAt 22 (S.lv) (I6 i)) ((Po (bof S.lv) (oof S.lv + i * 8))) w']), (13, [w'.cell? ⟨bof S.lv, oof S.lv + i * 8 + 1, none⟩ = some (.bool lr.tr)]), (15, [w'.cell? ⟨w.heap.size, 0, none⟩ = some (S.lv)]), (17, [Rv (Instr.indexAt 22 (S.lv) (I6 i)) ((Po (bof S.lv) (oof S.lv + i * 8))) w']), (19, [w'.cell? ⟨bof S.lv, oof S.lv + i * 8 + 2, none⟩ = some (I6 x.kd), w'.cell? ⟨bof S.lv, oof S.lv + i * 8 + 2 + 1, none⟩ = some (I6 x.fr), w'.cell? ⟨bof S.lv, oof S.lv + i * 8 + 2 + 2, none⟩ = some (I6 x.to), w'.cell? ⟨bof S.lv, oof S.lv + i * 8 + 2 + 3, none⟩ = some (I6 x.mi), w'.cell? ⟨bof S.lv, oof S.lv + i * 8 + 2 + 4, none⟩ = some (I6 x.ma), w'.cell? ⟨bof S.lv, oof S.lv + i * 8 + 2 + 5, none⟩ = some (x.ls)]), (22, [Rv (Instr.indexAt 22 (Sl w7.heap.size (S.lx.length + 1) (S.lx.length + 1)) (I6 i)) ((Po w7.heap.size (0 + i * 8))) w'])]) (none, 0, 0, wl23.drew, w) [1, 2, 3, 4, 19] [] hS (fun ⟨va30, vn30, vc30, wc30, ws31⟩ _ => by kernel_rfl) trivial ?_ ?_ ?_
  ·rintro e ⟨va30, vn30, vc30, wc30, ws31⟩ w' hw hH
   refine (.c ?_ (.c ?_ (.c ?_ (.c ?_ (.c ?_ (.c ?_ (.c ?_ (.c ?_ (.c ?_ (.c ?_ .nil))))))))))
   ·intro h1 h2
    replace h1 : 0 ≤ e := h1
    replace h2 : e ≤ 1 := h2
    have he : e = 0 ∨ e = 1 := by omega
    rcases he with rfl | rfl
    ·have hwe : wl23.drew = w' := hwz hw
     subst hwe
     clear hH
     exact (.c ((hB24.drew : Blk wl23.drew w.heap.size 26 (S.ca)).cell 0 rfl) .nil)
    ·have hwe : wc30 = w' := hwz hw
     subst hwe
     obtain ⟨hT30, hEc30, _⟩ := hH
     exact (.c (((hB24.drew : Blk wl23.drew w.heap.size 26 (S.ca)).ext hEc30 (by simp) : Blk wc30 w.heap.size 26 (S.ca)).cell 0 rfl) .nil)
   ·intro h1 h2
    replace h1 : 0 ≤ e := h1
    replace h2 : e ≤ 1 := h2
    have he : e = 0 ∨ e = 1 := by omega
    rcases he with rfl | rfl
    ·have hwe : wl23.drew = w' := hwz hw
     subst hwe
     clear hH
     exact (.c (ixr 100 i hG.lex) .nil)
    ·have hwe : wc30 = w' := hwz hw
     subst hwe
     obtain ⟨hT30, hEc30, _⟩ := hH
     exact (.c (ixr 100 i hG.lex) .nil)
   ·intro h1 h2
    replace h1 : 0 ≤ e := h1
    replace h2 : e ≤ 1 := h2
    have he : e = 0 ∨ e = 1 := by omega
    rcases he with rfl | rfl
    ·have hwe : wl23.drew = w' := hwz hw
     subst hwe
     clear hH
     exact (.c ((hG.lex.ext0 ((hbl23.trans hXl23 (fun b hbM => by simp at hbM; rw [hbM]; exact .inr (Nat.le_trans hb.size hE13.size))).trans0 (by first | exact (Ext.refl [] _).drew | exact Ext.refl [] _ | exact ((Ext.refl [] _).drew).trans0 (by assumption)))).cellAt (i * 8 + 0) (by omega) (lcells_is (i := 0) hlr hlc (by omega))) .nil)
    ·have hwe : wc30 = w' := hwz hw
     subst hwe
     obtain ⟨hT30, hEc30, _⟩ := hH
     exact (.c ((hG.lex.ext0 ((hbl23.trans hXl23 (fun b hbM => by simp at hbM; rw [hbM]; exact .inr (Nat.le_trans hb.size hE13.size))).trans0 (by first | exact (Ext.refl [] _).drew | exact Ext.refl [] _ | exact ((Ext.refl [] _).drew).trans0 (by assumption)))).cellAt (i * 8 + 0) (by omega) (lcells_is (i := 0) hlr hlc (by omega))) .nil)
   ·intro h1 h2
    replace h1 : 0 ≤ e := h1
    replace h2 : e ≤ 1 := h2
    have he : e = 0 ∨ e = 1 := by omega
    rcases he with rfl | rfl
    ·have hwe : wl23.drew = w' := hwz hw
     subst hwe
     clear hH
     exact (.c ((hB24.drew : Blk wl23.drew w.heap.size 26 (S.ca)).cell 0 rfl) .nil)
    ·have hwe : wc30 = w' := hwz hw
     subst hwe
     obtain ⟨hT30, hEc30, _⟩ := hH
     exact (.c (((hB24.drew : Blk wl23.drew w.heap.size 26 (S.ca)).ext hEc30 (by simp) : Blk wc30 w.heap.size 26 (S.ca)).cell 0 rfl) .nil)
   ·intro h1 h2
    replace h1 : 0 ≤ e := h1
    replace h2 : e ≤ 1 := h2
    have he : e = 0 ∨ e = 1 := by omega
    rcases he with rfl | rfl
    ·have hwe : wl23.drew = w' := hwz hw
     subst hwe
     clear hH
     exact (.c (ixr 100 i hG.lex) .nil)
    ·have hwe : wc30 = w' := hwz hw
     subst hwe
     obtain ⟨hT30, hEc30, _⟩ := hH
     exact (.c (ixr 100 i hG.lex) .nil)
   ·intro h1 h2
    replace h1 : 0 ≤ e := h1
    replace h2 : e ≤ 1 := h2
    have he : e = 0 ∨ e = 1 := by omega
    rcases he with rfl | rfl
    ·have hwe : wl23.drew = w' := hwz hw
     subst hwe
     clear hH
     exact (.c ((hG.lex.ext0 ((hbl23.trans hXl23 (fun b hbM => by simp at hbM; rw [hbM]; exact .inr (Nat.le_trans hb.size hE13.size))).trans0 (by first | exact (Ext.refl [] _).drew | exact Ext.refl [] _ | exact ((Ext.refl [] _).drew).trans0 (by assumption)))).cellAt (i * 8 + 1) (by omega) (lcells_is (i := 1) hlr hlc (by omega))) .nil)
    ·have hwe : wc30 = w' := hwz hw
     subst hwe
     obtain ⟨hT30, hEc30, _⟩ := hH
     exact (.c ((hG.lex.ext0 ((hbl23.trans hXl23 (fun b hbM => by simp at hbM; rw [hbM]; exact .inr (Nat.le_trans hb.size hE13.size))).trans0 (by first | exact (Ext.refl [] _).drew | exact Ext.refl [] _ | exact ((Ext.refl [] _).drew).trans0 (by assumption)))).cellAt (i * 8 + 1) (by omega) (lcells_is (i := 1) hlr hlc (by omega))) .nil)
   ·intro h1 h2
    obtain rfl := Nat.le_antisymm h2 h1
    have hwe : wl23.drew = w' := hwz hw
    subst hwe
    clear hH
    exact (.c ((hB24.drew : Blk wl23.drew w.heap.size 26 (S.ca)).cell 0 rfl) .nil)
   ·intro h1 h2
    obtain rfl := Nat.le_antisymm h2 h1
    have hwe : wl23.drew = w' := hwz hw
    subst hwe
    clear hH
    exact (.c (ixr 100 i hG.lex) .nil)
   ·intro h1 h2
    obtain rfl := Nat.le_antisymm h2 h1
    have hwe : wl23.drew = w' := hwz hw
    subst hwe
    clear hH
    exact (.c ((hG.lex.ext0 ((hbl23.trans hXl23 (fun b hbM => by simp at hbM; rw [hbM]; exact .inr (Nat.le_trans hb.size hE13.size))).trans0 (by first | exact (Ext.refl [] _).drew | exact Ext.refl [] _ | exact ((Ext.refl [] _).drew).trans0 (by assumption)))).cellAt (i * 8 + 2) (by omega) (lcells_is (i := 2) hlr hlc (by omega))) (.c ((hG.lex.ext0 ((hbl23.trans hXl23 (fun b hbM => by simp at hbM; rw [hbM]; exact .inr (Nat.le_trans hb.size hE13.size))).trans0 (by first | exact (Ext.refl [] _).drew | exact Ext.refl [] _ | exact ((Ext.refl [] _).drew).trans0 (by assumption)))).cellAt (i * 8 + 3) (by omega) (lcells_is (i := 3) hlr hlc (by omega))) (.c ((hG.lex.ext0 ((hbl23.trans hXl23 (fun b hbM => by simp at hbM; rw [hbM]; exact .inr (Nat.le_trans hb.size hE13.size))).trans0 (by first | exact (Ext.refl [] _).drew | exact Ext.refl [] _ | exact ((Ext.refl [] _).drew).trans0 (by assumption)))).cellAt (i * 8 + 4) (by omega) (lcells_is (i := 4) hlr hlc (by omega))) (.c ((hG.lex.ext0 ((hbl23.trans hXl23 (fun b hbM => by simp at hbM; rw [hbM]; exact .inr (Nat.le_trans hb.size hE13.size))).trans0 (by first | exact (Ext.refl [] _).drew | exact Ext.refl [] _ | exact ((Ext.refl [] _).drew).trans0 (by assumption)))).cellAt (i * 8 + 5) (by omega) (lcells_is (i := 5) hlr hlc (by omega))) (.c ((hG.lex.ext0 ((hbl23.trans hXl23 (fun b hbM => by simp at hbM; rw [hbM]; exact .inr (Nat.le_trans hb.size hE13.size))).trans0 (by first | exact (Ext.refl [] _).drew | exact Ext.refl [] _ | exact ((Ext.refl [] _).drew).trans0 (by assumption)))).cellAt (i * 8 + 6) (by omega) (lcells_is (i := 6) hlr hlc (by omega))) (.c ((hG.lex.ext0 ((hbl23.trans hXl23 (fun b hbM => by simp at hbM; rw [hbM]; exact .inr (Nat.le_trans hb.size hE13.size))).trans0 (by first | exact (Ext.refl [] _).drew | exact Ext.refl [] _ | exact ((Ext.refl [] _).drew).trans0 (by assumption)))).cellAt (i * 8 + 7) (by omega) (lcells_is (i := 7) hlr hlc (by omega))) .nil))))))
   ·intro h1 h2
    obtain rfl := Nat.le_antisymm h2 h1
    have hwe : wc30 = w' := hwz hw
    subst hwe
    obtain ⟨hT30, hEc30, _⟩ := hH
    exact (.c (ixs 100 8 i) .nil)
  ·refine (.c ?eq32_20 (.c ?eq32_23 .nil))
   ·rintro ⟨va30, vn30, vc30, wc30, ws31⟩ hH
    clear hH
    refine eff_gh (wl23.drew) (by kernel_rfl) ?_
    refine upon_call (f := 51) (vs := [.agg #[I6 x.kd, I6 x.fr, I6 x.to, I6 x.mi, I6 x.ma, x.ls]]) (cap := #[]) (d := (some 42)) (by kernel_rfl) Tryd.call51 #[.agg #[I6 x.kd, I6 x.fr, I6 x.to, I6 x.mi, I6 x.ma, x.ls]] (by kernel_rfl) (TwinExpr_any hxo ((hbl23.trans hXl23 (fun b hbM => by simp at hbM; rw [hbM]; exact .inr (Nat.le_trans hb.size hE13.size))).trans0 ((Ext.refl [] _).drew))) ?_
    rintro _ wc30 ⟨va30, vn30, vc30, rfl, hT30, hEc30⟩
    exact ⟨_, rfl, ⟨(va30, vn30, vc30, wc30, ws31), by kernel_rfl, by kernel_rfl, by kernel_rfl, ⟨hT30, hEc30, trivial⟩⟩⟩
   ·rintro ⟨va30, vn30, vc30, wc30, ws31⟩ hH
    obtain ⟨hT30, hEc30, _⟩ := hH
    refine eff_gh (wc30) (by kernel_rfl) ?_
    refine upon_store_ownN (b := w7.heap.size) (off := 0 + i * 8) (vs := [.string lr.nm, .bool lr.tr, I6 x.kd, I6 x.fr, I6 x.to, I6 x.mi, I6 x.ma, .slice va30 vn30 vc30]) (xs := (lcells ls ++ xm15.drop (i * 8))) (by kernel_rfl) ((hgk.drew : OwnR wl23.drew 100 8 w7.heap.size (S.lx.length + 1) (S.lx.length + 1) (lcells ls ++ xm15.drop (i * 8))).ext hEc30 (by simp) : OwnR wc30 100 8 w7.heap.size (S.lx.length + 1) (S.lx.length + 1) (lcells ls ++ xm15.drop (i * 8))) (by simp only [List.length_cons, List.length_nil]; omega) fun ws31 hOs31 hEs31 hsz31 => ?_
    exact ⟨(va30, vn30, vc30, wc30, ws31), by kernel_rfl, by kernel_rfl, by kernel_rfl, ⟨hT30, hEc30, hOs31, hEs31, trivial⟩⟩
  rintro ⟨va30, vn30, vc30, wc30, ws31⟩ a w33 hS hw34 hH
  obtain ⟨hT30, hEc30, hOs31, hEs31, _⟩ := hH
  replace hw34 : w33 = ws31 := hw34.trans (by kernel_rfl)
  have hB37 : OwnR w33 100 8 w7.heap.size (S.lx.length + 1) (S.lx.length + 1) (setL (lcells ls ++ xm15.drop (i * 8)) (0 + i * 8) [.string lr.nm, .bool lr.tr, I6 x.kd, I6 x.fr, I6 x.to, I6 x.mi, I6 x.ma, .slice va30 vn30 vc30]) := by rw [hw34]; exact hOs31
  have hE38 : Ext [w7.heap.size] wm15 w33 := by rw [hw34]; exact ((hXl23.drew).trans0 hEc30).trans hEs31 (fun b hb => by simp at hb; subst hb; exact .inl (by simp))
  have hX39 : Ext [w7.heap.size] wl23 w33 := by rw [hw34]; exact (((Ext.refl _ _).drew).trans0 hEc30).trans hEs31 (by simp)
  have hG40 : Ext [w7.heap.size] wl23 w33 := (Ext.refl [w7.heap.size] wl23).trans hX39 (fun b hb => .inl hb)
  replace hS := hS.kp [(1, (Pv w.heap.size)), (2, (Pv w2.heap.size)), (3, Sl w7.heap.size (S.lx.length + 1) (S.lx.length + 1)), (4, I6 i), (19, .bool (decide ((↑i : Int) < ↑S.lx.length)))]
  refine inBlock_normal <| hK29 _ _ <| rgn 3 <| sd ww [.p, .as (I6 (↑i + 1)), .p] [_] [(4, I6 (↑i + 1))] [] 3 0 hS (as6 (↑i + 1)) fun a hS => seg_end ?_
  have hgs : OwnR w33 100 8 (w7.heap.size) (S.lx.length + 1) (S.lx.length + 1) (setL (ls.flatMap Lx.cells ++ xm15.drop (i * 8)) (0 + i * 8) (Lx.cells (⟨lr.nm, lr.tr, x.kd, x.fr, x.to, x.mi, x.ma, .slice va30 vn30 vc30⟩ : Lx))) := hB37
  rw [fill_step (f := Lx.cells) (k := 8) (n := S.lx.length + 1) (fun _ => rfl) (⟨lr.nm, lr.tr, x.kd, x.fr, x.to, x.mi, x.ma, .slice va30 vn30 vc30⟩ : Lx) hL.len hxm15 (by omega)] at hgs
  have hTz : TwE w33 wm15.heap.size (.slice va30 vn30 vc30) x := by rw [hw34]; exact (hT30.mono hN1).extN hEs31 hglN
  have hLz := (hL.extN hG40 (fun b hb => hglN b hb)).snoc hlr hx (l' := (⟨lr.nm, lr.tr, x.kd, x.fr, x.to, x.mi, x.ma, .slice va30 vn30 vc30⟩ : Lx)) rfl hTz
  exact ⟨(i + 1, (ls ++ [(⟨lr.nm, lr.tr, x.kd, x.fr, x.to, x.mi, x.ma, .slice va30 vn30 vc30⟩ : Lx)])), ⟨hS.kp [(1, (Pv w.heap.size)), (2, (Pv w2.heap.size)), (3, Sl w7.heap.size (S.lx.length + 1) (S.lx.length + 1)), (4, I6 (↑i + 1))], hE38, by omega, hgs, hLz⟩, by simp only; omega⟩
 ·
  replace hb28 := of_decide_eq_false hb28
  have hEl23 : Ext [] w wl23 := hE20.trans hXl23 (fun b hbM => by simp at hbM; rw [hbM]; exact .inr hE13.size)
  have hie : i = S.lx.length := by omega
  have hgz := hgk
  rw [hie] at hL hgz
  have hzl := hgz.len
  refine xt2 <| hK21 _ _ <| sq fun K41 hK41 => rgn 7 <| sd ww [.p, .p, .ld (S.lv), .run (I6 S.lx.length), .p, .run ((Po w7.heap.size (0 + S.lx.length * 8)))] [_, Rv (Builtin.len_ #[22] 3 #[S.lv]) (I6 S.lx.length) wl23, Rv (Instr.indexAt 22 (Sl w7.heap.size (S.lx.length + 1) (S.lx.length + 1)) (I6 S.lx.length)) ((Po w7.heap.size (0 + S.lx.length * 8))) wl23] [(49, .agg #[.string ⟨#[109, 97, 114, 107]⟩, .bool false, I6 0, I6 0, I6 0, I6 0, I6 0, .slice none 0 0]), (50, (Po w7.heap.size (0 + S.lx.length * 8)))] [] 6 1 hS (hB24.k 0 (.c (rlr 100 hG.lex) (.c (ixs 100 8 S.lx.length) .nil))) fun a hS => eff_store_ownN ww (r := 0) (b := w7.heap.size) (off := 0 + S.lx.length * 8) (vs := [.string ⟨#[109, 97, 114, 107]⟩, .bool false, I6 0, I6 0, I6 0, I6 0, I6 0, .slice none 0 0]) (xs := (lcells ls ++ xm15.drop (S.lx.length * 8))) hS (by kernel_rfl) hgz (by simp only [List.length_cons, List.length_nil]; omega) fun a ws42 hOs42 hEs42 hsz42 hS => ?_
  have hB43 := hB24.ext hEs42 (by simpa using hn15_15)
  have hB44 := hB25.ext hEs42 (by simpa using hn15_16)
  have hE45 : Ext [] w ws42 := hEl23.trans hEs42 (fun b hb => by simp at hb; subst hb; exact .inr hE13.size)
  have hG46 : LxsOk ws42 wm15.heap.size S xs S.lx.length ls := hL.extN hEs42 hglN
  refine sge hK41 <| sq fun K47 hK47 => ?_
  have hgl : OwnR ws42 100 8 (w7.heap.size) (S.lx.length + 1) (S.lx.length + 1) (setL (lcells ls ++ xm15.drop (S.lx.length * 8)) (0 + S.lx.length * 8) markL) := hOs42
  rw [fill_mark (by rw [lcells_len, hL.len]) hxm15 rfl] at hgl
  have hLl := hG46
  have hgl0 : w.heap.size ≤ w7.heap.size := hE13.size
  have hbr48 : Ext [] w0 ws42 := (hb.trans0 hE45)
  have hEr48 : Ext [w2.heap.size] ws42 ws42 := Ext.refl _ _
  refine rgn 6 <| sd ww [.p, .ld (S.nv), .run (I6 S.ns.length), .as (I6 ((S.ns.length + 1 : Nat) : Int))] [_, Rv (Builtin.len_ #[23] 3 #[S.nv]) (I6 S.ns.length) ws42, Value.int .i64 (IntKind.i64.wrap (↑S.ns.length + 1)) = I6 ((S.ns.length + 1 : Nat) : Int)] [(54, I6 ((S.ns.length + 1 : Nat) : Int))] [] 4 2 hS (hB43.k 1 (.c (rlr 9 hG.names) (.c ((by rw [show (↑S.ns.length + 1 : Int) = ((S.ns.length + 1 : Nat) : Int) from by omega]; exact as_i64 (by omega))) .nil))) fun a hS => ?_
  obtain ⟨wm49, xm49, hrm49, hOm49, hEm49, hsm49⟩ := make_lenN (P := Tryd.prog) (w := ws42) (T := 23) (E := 9) (size := 1) (bytes := 16) (z := #[.string ⟨#[]⟩]) (l := (S.ns.length + 1)) (by kernel_rfl) (by kernel_rfl) (by omega) (by omega)
  refine eff_run ww (r := 1) (s := vS (Instr.makeSlice 23 (I6 ((S.ns.length + 1 : Nat) : Int)) (I6 ((S.ns.length + 1 : Nat) : Int)))) (d := (some 55)) (v := Sl ws42.heap.size (S.ns.length + 1) (S.ns.length + 1)) hS (by kernel_rfl) hrm49 fun a hS => ?_
  have hn49_49 := Nat.ne_of_lt hB43.lt
  have hn49_50 := Nat.ne_of_lt hB44.lt
  have hn49_51 := Nat.ne_of_lt hgl.lt
  have hB53 := hB43.ext hEm49 (by simp)
  have hB54 := hB44.ext hEm49 (by simp)
  have hB55 := hgl.ext hEm49 (by simp)
  have hE56 := hEr48.trans0 hEm49
  have hxm49 : xm49.length = (S.ns.length + 1) * 1 := hOm49.len
  refine sd ww [.p] [] [(5, Sl ws42.heap.size (S.ns.length + 1) (S.ns.length + 1))] [] 6 0 hS .nil fun a hS => sge hK47 <| sq fun K57 hK57 => rgn 4 <| sd ww [.p, .p, .ld (S.nv)] [_] [(56, Sl ws42.heap.size (S.ns.length + 1) (S.ns.length + 1)), (58, S.nv)] [] 3 1 hS (hB53.k 1 .nil) fun a hS => ?_
  obtain ⟨wk58, hrk58, hOk58, hEk58, hsk58⟩ := copy_ownK (P := Tryd.prog) (w := wm49) (dT := 23) (sT := 23) (ty := 3) (e := 9) (K := 1) (c := (S.ns.length + 1)) (by kernel_rfl) (by kernel_rfl) hOm49 (hG.names.ext0 (hbr48.trans hE56 (fun b hbM => by simp at hbM; rw [hbM]; exact .inr (Nat.le_trans hb.size hs12)))) (by omega) (ncells_one _)
  refine eff_run ww (r := 0) (s := vS (Builtin.copy_ #[23, 23] 3 #[Sl ws42.heap.size (S.ns.length + 1) (S.ns.length + 1), S.nv])) (d := (some 59)) (v := I6 S.ns.length) hS (by kernel_rfl) hrk58 fun a hS => ?_
  have hB59 := hB53.ext hEk58 (by simpa using hn49_49)
  have hB60 := hB54.ext hEk58 (by simpa using hn49_50)
  have hB61 := hB55.ext hEk58 (by simpa using hn49_51)
  have hE62 := hE56.trans hEk58 (fun b hb => by simp at hb; subst hb; exact .inr hEr48.size)
  refine sge hK57 <| sq fun K63 hK63 => ?_
  have hzn := (hOk58).len
  refine rgn 6 <| sd ww [.p, .p, .ld (S.nv), .run (I6 S.ns.length), .run ((Po ws42.heap.size (0 + S.ns.length * 1)))] [_, Rv (Builtin.len_ #[23] 3 #[S.nv]) (I6 S.ns.length) wk58, Rv (Instr.indexAt 23 (Sl ws42.heap.size (S.ns.length + 1) (S.ns.length + 1)) (I6 S.ns.length)) ((Po ws42.heap.size (0 + S.ns.length * 1))) wk58] [(64, (Po ws42.heap.size (0 + S.ns.length * 1)))] [] 5 1 hS (hB59.k 1 (.c (rlr 9 hG.names) (.c (ixs 9 1 S.ns.length) .nil))) fun a hS => eff_store_own ww (r := 0) (b := ws42.heap.size) (off := 0 + S.ns.length * 1) (u := Value.string ⟨#[109, 97, 114, 107]⟩) (xs := ((ncells S.ns) ++ xm49.drop (S.ns.length * 1))) hS (by kernel_rfl) hOk58 (by omega) fun a ws64 hOs64 hEs64 hsz64 hS => ?_
  have hB65 := hB59.ext hEs64 (by simpa using hn49_49)
  have hB66 := hB60.ext hEs64 (by simpa using hn49_50)
  have hB67 := hB61.ext hEs64 (by simpa using hn49_51)
  have hE68 : Ext [w2.heap.size] ws42 ws64 := hE62.trans hEs64 (fun b hb => by simp at hb; subst hb; exact .inr hEr48.size)
  refine sge hK63 <| sq fun K69 hK69 => ?_
  have hgn : OwnR ws64 9 1 (ws42.heap.size) (S.ns.length + 1) (S.ns.length + 1) ((ncells S.ns ++ xm49.drop (S.ns.length * 1)).set (0 + S.ns.length * 1) (.string mk4)) := hOs64
  rw [fill_one _ (ncells_len _) hxm49] at hgn
  refine rgn 6 <| sg ww [.p, .ld (S.pv), .run (I6 S.ps.length), .as (I6 ((S.ps.length + 1 : Nat) : Int))] [_, Rv (Builtin.len_ #[24] 3 #[S.pv]) (I6 S.ps.length) ws64, Value.int .i64 (IntKind.i64.wrap (↑S.ps.length + 1)) = I6 ((S.ps.length + 1 : Nat) : Int)] [(1, (Pv w.heap.size)), (2, (Pv w2.heap.size)), (3, Sl w7.heap.size (S.lx.length + 1) (S.lx.length + 1)), (4, I6 i), (5, Sl ws42.heap.size (S.ns.length + 1) (S.ns.length + 1)), (68, I6 ((S.ps.length + 1 : Nat) : Int))] 4 2 hS (hB65.k 3 (.c (rlr 73 hG.prods) (.c ((by rw [show (↑S.ps.length + 1 : Int) = ((S.ps.length + 1 : Nat) : Int) from by omega]; exact as_i64 (by omega))) .nil))) fun a hS => ?_
  obtain ⟨wm70, xm70, hrm70, hOm70, hEm70, hsm70⟩ := make_lenN (P := Tryd.prog) (w := ws64) (T := 24) (E := 73) (size := 2) (bytes := 32) (z := #[I6 0, .slice none 0 0]) (l := (S.ps.length + 1)) (by kernel_rfl) (by kernel_rfl) (by omega) (by omega)
  refine eff_run ww (r := 1) (s := vS (Instr.makeSlice 24 (I6 ((S.ps.length + 1 : Nat) : Int)) (I6 ((S.ps.length + 1 : Nat) : Int)))) (d := (some 69)) (v := Sl ws64.heap.size (S.ps.length + 1) (S.ps.length + 1)) hS (by kernel_rfl) hrm70 fun a hS => ?_
  have hn70_70 := Nat.ne_of_lt hB65.lt
  have hn70_71 := Nat.ne_of_lt hB66.lt
  have hn70_72 := Nat.ne_of_lt hB67.lt
  have hn70_73 := Nat.ne_of_lt hgn.lt
  have hB75 := hB65.ext hEm70 (by simp)
  have hB76 := hB66.ext hEm70 (by simp)
  have hB77 := hB67.ext hEm70 (by simp)
  have hB78 := hgn.ext hEm70 (by simp)
  have hE79 := hE68.trans0 hEm70
  have hxm70 : xm70.length = (S.ps.length + 1) * 2 := hOm70.len
  refine sd ww [.p] [] [(6, Sl ws64.heap.size (S.ps.length + 1) (S.ps.length + 1))] [] 6 0 hS .nil fun a hS => sge hK69 <| sq fun K80 hK80 => sdq 1 [.p] [] [(7, I6 0)] [] hS .nil fun a hS => wpIn_block ?_
  have hgpN : ∀ x ∈ ([ws64.heap.size] : List Nat), x < wm70.heap.size := fun x hx => by simp at hx; rw [hx, hsm70]; exact Nat.lt_succ_self _
  have h2N2 : ∀ x ∈ ([w2.heap.size] : List Nat), x < wm70.heap.size := fun x hx => by simp at hx; rw [hx]; exact hB76.lt
  have hbl82 : Ext [] w0 wm70 := (hbr48.trans hE79 (fun b hbM => by simp at hbM; rw [hbM]; exact .inr (Nat.le_trans hb.size hs12)))
  refine loop_ghost (fun ((i, qs) : Nat × (List Pd)) a' w' => St 132 [] [(1, (Pv w.heap.size)), (2, (Pv w2.heap.size)), (3, Sl w7.heap.size (S.lx.length + 1) (S.lx.length + 1)), (5, Sl ws42.heap.size (S.ns.length + 1) (S.ns.length + 1)), (6, Sl ws64.heap.size (S.ps.length + 1) (S.ps.length + 1)), (7, I6 i)] a' ∧ Ext [ws64.heap.size] wm70 w' ∧ i ≤ S.ps.length ∧ OwnR w' 73 2 (ws64.heap.size) (S.ps.length + 1) (S.ps.length + 1) (pcells qs ++ xm70.drop (i * 2)) ∧ PdsOk w' wm70.heap.size S i qs) (fun ((i, qs) : Nat × (List Pd)) => S.ps.length - i) (0, []) ⟨hS.keepTo [1, 2, 3, 5, 6, 7] (by kernel_rfl), Ext.refl _ _, by omega, (by rw [Nat.zero_mul]; exact hOm70), .start _ _ _⟩ ?_
  rintro ⟨i, qs⟩ a wl82 ⟨hS, hXl82, hi, hgq, hP⟩
  have hB83 := hB75.ext hXl82 (by simpa using hn70_70)
  have hB84 := hB76.ext hXl82 (by simpa using hn70_71)
  have hB85 := hB77.ext hXl82 (by simpa using hn70_72)
  have hB86 := hB78.ext hXl82 (by simpa using hn70_73)
  refine sq fun K87 hK87 => sdq 5 [.p, .p, .ld (S.pv), .run (I6 S.ps.length), .p] [_, Rv (Builtin.len_ #[24] 3 #[S.pv]) (I6 S.ps.length) wl82] [(74, .bool (decide ((↑i : Int) < ↑S.ps.length)))] [] hS (hB83.k 3 (.c (rlr 73 hG.prods) .nil)) fun a hS => ?_
  refine cond_b hS rfl (fun hb89 => ?_) (fun hb89 => ?_)
  ·
   replace hb89 := of_decide_eq_true hb89
   obtain ⟨p, hpi⟩ : ∃ p, S.ps[i]? = some p := gE
   have hpm := List.mem_of_getElem? hpi
   have hrm := hG.rmax p hpm
   have hzl := hgq.len
   refine wpIn_skip <| hK87 _ _ <| sq fun K90 hK90 => wpIn_block <| sq fun K91 hK91 => rgn 7 <| sd ww [.p, .ld (S.pv), .p, .run ((Po (bof S.pv) (oof S.pv + i * 2))), .lds [I6 p.l, p.rv]] [_, Rv (Instr.indexAt 24 (S.pv) (I6 i)) ((Po (bof S.pv) (oof S.pv + i * 2))) wl82, wl82.cell? ⟨bof S.pv, oof S.pv + i * 2, none⟩ = some (I6 p.l), wl82.cell? ⟨bof S.pv, oof S.pv + i * 2 + 1, none⟩ = some (p.rv)] [(81, .agg #[I6 p.l, p.rv])] [] 5 2 hS (hB83.k 3 (.c (ixr 73 i hG.prods) (.c ((hG.prods.ext0 (hbl82.trans hXl82 (fun b hbM => by simp at hbM; rw [hbM]; exact .inr (Nat.le_trans hb.size (Nat.le_trans (hE45).size hE68.size))))).cellAt (i * 2 + 0) (by omega) (pcells_at S.ps i 0 p hpi (by omega))) (.c ((hG.prods.ext0 (hbl82.trans hXl82 (fun b hbM => by simp at hbM; rw [hbM]; exact .inr (Nat.le_trans hb.size (Nat.le_trans (hE45).size hE68.size))))).cellAt (i * 2 + 1) (by omega) (pcells_at S.ps i 1 p hpi (by omega))) .nil)))) fun a hS => ebx 1 #[I6 0, .slice none 0 0] 73 (some 8) hS fun a w92 hw93 hS => ?_
   have hn98 := Nat.ne_of_lt hgq.lt
   have hB103 := OwnR.at' hw93 (hgq.alloc _)
   have hX104 : Ext [] wl82 w92 := by rw [hw93]; exact (Ext.refl _ _).alloc _
   have hG105 : Ext [ws64.heap.size] wl82 w92 := (Ext.refl [ws64.heap.size] wl82).trans0 hX104
   have hB106 := Blk.nw hw93
   have hs107 := hXl82.size
   have hE108 := hXl82.al hw93
   refine est 0 wl82.heap.size 0 [I6 p.l, p.rv] hS hB106 fun a w109 hw110 hS => ?_
   have hB115 := OwnR.at' hw110 (hB103.updNe (Ne.symm hn98) _ _)
   have hB116 : Blk w109 wl82.heap.size 73 (#[I6 p.l, p.rv]) := hB106.up hw110
   have hX117 : Ext [wl82.heap.size] w92 w109 := by rw [hw110]; exact (Ext.refl _ _).updIn (.inl (by simp)) _ _
   have hG118 : Ext [ws64.heap.size] wl82 w109 := hG105.trans hX117 (fun b hb => by simp at hb; rw [hb]; exact .inr (Nat.le_refl _))
   have hE119 := hE108.ui hw110 hs107
   refine sge hK91 <| sq fun K120 hK120 => rgn 6 <| sd ww [.p, .ld (p.rv), .run (I6 p.r.length), .as (I6 ((p.r.length + 1 : Nat) : Int))] [_, Rv (Builtin.len_ #[71] 3 #[p.rv]) (I6 p.r.length) w109, Value.int .i64 (IntKind.i64.wrap (↑p.r.length + 1)) = I6 ((p.r.length + 1 : Nat) : Int)] [(85, I6 ((p.r.length + 1 : Nat) : Int))] [] 4 2 hS (hB116.k 1 (.c (rlr 61 (hG.right p hpm)) (.c ((by rw [show (↑p.r.length + 1 : Int) = ((p.r.length + 1 : Nat) : Int) from by omega]; exact as_i64 (by omega))) .nil))) fun a hS => ?_
   have hgE : wl82.heap.size ≤ w109.heap.size := (hG118).size
   obtain ⟨wm121, xm121, hrm121, hOm121, hEm121, hsm121⟩ := make_lenN (P := Tryd.prog) (w := w109) (T := 71) (E := 61) (size := 2) (bytes := 16) (z := #[I6 0, I6 0]) (l := (p.r.length + 1)) (by kernel_rfl) (by kernel_rfl) (by omega) (by omega)
   refine eff_run ww (r := 1) (s := vS (Instr.makeSlice 71 (I6 ((p.r.length + 1 : Nat) : Int)) (I6 ((p.r.length + 1 : Nat) : Int)))) (d := (some 86)) (v := Sl w109.heap.size (p.r.length + 1) (p.r.length + 1)) hS (by kernel_rfl) hrm121 fun a hS => ?_
   have hn121_125 := Nat.ne_of_lt hB115.lt
   have hn121_126 := Nat.ne_of_lt hB116.lt
   have hB132 := hB115.ext hEm121 (by simp)
   have hB133 := hB116.ext hEm121 (by simp)
   have hG134 : Ext [ws64.heap.size] wl82 wm121 := hG118.trans0 hEm121
   have hE135 := hE119.trans0 hEm121
   have hxm121 : xm121.length = (p.r.length + 1) * 2 := hOm121.len
   refine sd ww [.p] [] [(9, Sl w109.heap.size (p.r.length + 1) (p.r.length + 1))] [] 6 0 hS .nil fun a hS => sge hK120 <| sq fun K136 hK136 => rgn 4 <| sd ww [.p, .p, .ld (p.rv)] [_] [(87, Sl w109.heap.size (p.r.length + 1) (p.r.length + 1)), (89, p.rv)] [] 3 1 hS (hB133.k 1 .nil) fun a hS => ?_
   obtain ⟨wk137, hrk137, hOk137, hEk137, hsk137⟩ := copy_ownK (P := Tryd.prog) (w := wm121) (dT := 71) (sT := 71) (ty := 3) (e := 61) (K := 2) (c := (p.r.length + 1)) (by kernel_rfl) (by kernel_rfl) hOm121 ((hG.right p hpm).ext0 (hbl82.trans hE135 (fun b hbM => by simp at hbM; rw [hbM]; exact .inr (Nat.le_trans hb.size (Nat.le_trans (hE45).size hE68.size))))) (by omega) (ycells_one _)
   refine eff_run ww (r := 0) (s := vS (Builtin.copy_ #[71, 71] 3 #[Sl w109.heap.size (p.r.length + 1) (p.r.length + 1), p.rv])) (d := (some 90)) (v := I6 p.r.length) hS (by kernel_rfl) hrk137 fun a hS => ?_
   have hB142 := hB132.ext hEk137 (by simpa using hn121_125)
   have hB143 := hB133.ext hEk137 (by simpa using hn121_126)
   have hE144 := hE135.trans hEk137 (fun b hb => by simp at hb; subst hb; exact .inr hE119.size)
   have hG145 : Ext [ws64.heap.size] wl82 wk137 := hG134.trans hEk137 (fun b hb => by simp at hb; rw [hb]; exact .inr hgE)
   refine sge hK136 <| sq fun K146 hK146 => ?_
   have hzy := (hOk137).len
   refine rgn 7 <| sd ww [.p, .p, .ld (p.rv), .run (I6 p.r.length), .p, .run ((Po w109.heap.size (0 + p.r.length * 2)))] [_, Rv (Builtin.len_ #[71] 3 #[p.rv]) (I6 p.r.length) wk137, Rv (Instr.indexAt 71 (Sl w109.heap.size (p.r.length + 1) (p.r.length + 1)) (I6 p.r.length)) ((Po w109.heap.size (0 + p.r.length * 2))) wk137] [(95, .agg #[I6 77, I6 0]), (96, (Po w109.heap.size (0 + p.r.length * 2)))] [] 6 1 hS (hB143.k 1 (.c (rlr 61 (hG.right p hpm)) (.c (ixs 61 2 p.r.length) .nil))) fun a hS => eff_store_ownN ww (r := 0) (b := w109.heap.size) (off := 0 + p.r.length * 2) (vs := [I6 77, I6 0]) (xs := ((ycells p.r) ++ xm121.drop (p.r.length * 2))) hS (by kernel_rfl) hOk137 (by simp only [List.length_cons, List.length_nil]; omega) fun a ws147 hOs147 hEs147 hsz147 hS => ?_
   have hB152 := hB142.ext hEs147 (by simpa using hn121_125)
   have hB153 := hB143.ext hEs147 (by simpa using hn121_126)
   have hE154 : Ext [ws64.heap.size] wm70 ws147 := hE144.trans hEs147 (fun b hb => by simp at hb; subst hb; exact .inr hE119.size)
   have hG155 : Ext [ws64.heap.size] wl82 ws147 := hG145.trans hEs147 (fun b hb => by simp at hb; rw [hb]; exact .inr hgE)
   refine sge hK146 ?_
   have hgr : OwnR ws147 61 2 (w109.heap.size) (p.r.length + 1) (p.r.length + 1) (setL (ycells p.r ++ xm121.drop (p.r.length * 2)) (0 + p.r.length * 2) markY) := hOs147
   rw [fill_mark (ycells_len _) hxm121 rfl] at hgr
   refine gh3 (G := World) [.q .p, .q .p, .q .p, .q (.ld (I6 p.l)), .q .p, .q .p, .q (.ld (p.rv)), .q (.run (I6 p.r.length)), .q (.run (Sl w109.heap.size p.r.length (p.r.length + 1))), .q .p, .q (.run ((Po ws64.heap.size (0 + i * 2)))), .e] [0, 0, 0, 0, 0, 0, 0, 0, 0, 0, 0, 0] [0, 0, 0, 0, 0, 0, 0, 0, 0, 0, 0, 0] [0, 0, 0, 4, 0, 0, 32, 96, 240, 508, 1023, 2047] [11] [(11, 0)] 1 (fun ws156 => ([(1, (Pv w.heap.size)), (2, (Pv w2.heap.size)), (3, Sl w7.heap.size (S.lx.length + 1) (S.lx.length + 1)), (5, Sl ws42.heap.size (S.ns.length + 1) (S.ns.length + 1)), (6, Sl ws64.heap.size (S.ps.length + 1) (S.ps.length + 1)), (7, I6 i), (74, .bool (decide ((↑i : Int) < ↑S.ps.length))), (8, (Pv wl82.heap.size)), (9, Sl w109.heap.size (p.r.length + 1) (p.r.length + 1)), (97, Sl ws64.heap.size (S.ps.length + 1) (S.ps.length + 1)), (98, I6 i), (99, (Pv wl82.heap.size)), (100, I6 p.l), (101, Sl w109.heap.size (p.r.length + 1) (p.r.length + 1)), (102, (Po wl82.heap.size 1)), (103, p.rv), (104, I6 p.r.length), (105, Sl w109.heap.size p.r.length (p.r.length + 1)), (106, .agg #[I6 p.l, Sl w109.heap.size p.r.length (p.r.length + 1)]), (107, (Po ws64.heap.size (0 + i * 2)))] : Fm)) (fun ws156 => [ws147.drew, ws156]) (ws147.drew) (fun e ws156 => hAt [True, (OwnR ws156 73 2 ws64.heap.size (S.ps.length + 1) (S.ps.length + 1) (setL (pcells qs ++ xm70.drop (i * 2)) (0 + i * 2) [I6 p.l, Sl w109.heap.size p.r.length (p.r.length + 1)])) ∧ (Ext [ws64.heap.size] ws147.drew ws156) ∧ True] e) (fun ws156 w' => [(3, [w'.cell? ⟨wl82.heap.size, 0, none⟩ = some (I6 p.l)]), (6, [w'.cell? ⟨wl82.heap.size, 1, none⟩ = some (p.rv)]), (7, [Rv (Builtin.len_ #[71] 3 #[p.rv]) (I6 p.r.length) w']), (8, [Rv (Instr.sliceAt 71 (Sl w109.heap.size (p.r.length + 1) (p.r.length + 1)) none (some (I6 p.r.length)) none) (Sl w109.heap.size p.r.length (p.r.length + 1)) w']), (10, [Rv (Instr.indexAt 24 (Sl ws64.heap.size (S.ps.length + 1) (S.ps.length + 1)) (I6 i)) ((Po ws64.heap.size (0 + i * 2))) w'])]) ws147.drew [1, 2, 3, 5, 6, 7, 74, 8, 9] [] hS (fun ws156 _ => by kernel_rfl) trivial ?_ ?_ ?_
   ·rintro e ws156 w' hw hH
    refine (.c ?_ (.c ?_ (.c ?_ (.c ?_ (.c ?_ .nil)))))
    ·intro h1 h2
     obtain rfl := Nat.le_antisymm h2 h1
     have hwe : ws147.drew = w' := hwz hw
     subst hwe
     clear hH
     exact (.c ((hB153.drew : Blk ws147.drew wl82.heap.size 73 (#[I6 p.l, p.rv])).cell 0 rfl) .nil)
    ·intro h1 h2
     obtain rfl := Nat.le_antisymm h2 h1
     have hwe : ws147.drew = w' := hwz hw
     subst hwe
     clear hH
     exact (.c ((hB153.drew : Blk ws147.drew wl82.heap.size 73 (#[I6 p.l, p.rv])).cell 1 rfl) .nil)
    ·intro h1 h2
     obtain rfl := Nat.le_antisymm h2 h1
     have hwe : ws147.drew = w' := hwz hw
     subst hwe
     clear hH
     exact (.c (rlr 61 (hG.right p hpm)) .nil)
    ·intro h1 h2
     obtain rfl := Nat.le_antisymm h2 h1
     have hwe : ws147.drew = w' := hwz hw
     subst hwe
     clear hH
     exact (.c (sl_h (E := 61) (size := 2) (h := p.r.length) (by kernel_rfl) (by kernel_rfl) rfl (by omega)) .nil)
    ·intro h1 h2
     obtain rfl := Nat.le_antisymm h2 h1
     have hwe : ws147.drew = w' := hwz hw
     subst hwe
     clear hH
     exact (.c (ixs 73 2 i) .nil)
   ·refine (.c ?eq157_11 .nil)
    ·rintro ws156 hH
     clear hH
     refine eff_gh (ws147.drew) (by kernel_rfl) ?_
     refine upon_store_ownN (b := ws64.heap.size) (off := 0 + i * 2) (vs := [I6 p.l, Sl w109.heap.size p.r.length (p.r.length + 1)]) (xs := (pcells qs ++ xm70.drop (i * 2))) (by kernel_rfl) (hB152.drew : OwnR ws147.drew 73 2 ws64.heap.size (S.ps.length + 1) (S.ps.length + 1) (pcells qs ++ xm70.drop (i * 2))) (by simp only [List.length_cons, List.length_nil]; omega) fun ws156 hOs156 hEs156 hsz156 => ?_
     exact ⟨ws156, by kernel_rfl, by kernel_rfl, by kernel_rfl, ⟨hOs156, hEs156, trivial⟩⟩
   rintro ws156 a w158 hS hw159 hH
   obtain ⟨hOs156, hEs156, _⟩ := hH
   replace hw159 : w158 = ws156 := hw159.trans (by kernel_rfl)
   have hB165 := OwnR.at' hw159 ((hgr.drew : OwnR ws147.drew 61 2 w109.heap.size (p.r.length + 1) (p.r.length + 1) (ycells p.r ++ markY)).ext hEs156 (by simpa using (Ne.symm hn121_125)))
   have hB166 : OwnR w158 73 2 ws64.heap.size (S.ps.length + 1) (S.ps.length + 1) (setL (pcells qs ++ xm70.drop (i * 2)) (0 + i * 2) [I6 p.l, Sl w109.heap.size p.r.length (p.r.length + 1)]) := by rw [hw159]; exact hOs156
   have hE167 : Ext [ws64.heap.size] wm70 w158 := by rw [hw159]; exact (hE154.drew).trans hEs156 (fun b hb => by simp at hb; subst hb; exact .inl (by simp))
   have hX168 : Ext [ws64.heap.size] ws147 w158 := by rw [hw159]; exact ((Ext.refl _ _).drew).trans hEs156 (by simp)
   have hG169 : Ext [ws64.heap.size] wl82 w158 := hG155.trans hX168 (fun b hb => .inl hb)
   replace hS := hS.kp [(1, (Pv w.heap.size)), (2, (Pv w2.heap.size)), (3, Sl w7.heap.size (S.lx.length + 1) (S.lx.length + 1)), (5, Sl ws42.heap.size (S.ns.length + 1) (S.ns.length + 1)), (6, Sl ws64.heap.size (S.ps.length + 1) (S.ps.length + 1)), (7, I6 i), (74, .bool (decide ((↑i : Int) < ↑S.ps.length))), (8, (Pv wl82.heap.size)), (9, Sl w109.heap.size (p.r.length + 1) (p.r.length + 1))]
   refine inBlock_normal <| hK90 _ _ <| rgn 3 <| sg ww [.p, .as (I6 (↑i + 1)), .p] [_] [(1, (Pv w.heap.size)), (2, (Pv w2.heap.size)), (3, Sl w7.heap.size (S.lx.length + 1) (S.lx.length + 1)), (5, Sl ws42.heap.size (S.ns.length + 1) (S.ns.length + 1)), (6, Sl ws64.heap.size (S.ps.length + 1) (S.ps.length + 1)), (7, I6 (↑i + 1)), (74, .bool (decide ((↑i : Int) < ↑S.ps.length))), (8, (Pv wl82.heap.size)), (9, Sl w109.heap.size (p.r.length + 1) (p.r.length + 1))] 3 0 hS (as6 (↑i + 1)) fun a hS => seg_end ?_
   have hgs : OwnR w158 73 2 (ws64.heap.size) (S.ps.length + 1) (S.ps.length + 1) (setL (qs.flatMap Pd.cells ++ xm70.drop (i * 2)) (0 + i * 2) (Pd.cells (⟨p.l, some ⟨w109.heap.size, 0, none⟩, p.r.length + 1, p.r⟩ : Pd))) := hB166
   rw [fill_step (f := Pd.cells) (k := 2) (n := S.ps.length + 1) (fun _ => rfl) (⟨p.l, some ⟨w109.heap.size, 0, none⟩, p.r.length + 1, p.r⟩ : Pd) hP.len hxm70 (by omega)] at hgs
   have hPz := (hP.extN hG169 hgpN).snoc hpi (g := w109.heap.size) hE119.size hB165
   exact ⟨(i + 1, (qs ++ [(⟨p.l, some ⟨w109.heap.size, 0, none⟩, p.r.length + 1, p.r⟩ : Pd)])), ⟨hS.kp [(1, (Pv w.heap.size)), (2, (Pv w2.heap.size)), (3, Sl w7.heap.size (S.lx.length + 1) (S.lx.length + 1)), (5, Sl ws42.heap.size (S.ns.length + 1) (S.ns.length + 1)), (6, Sl ws64.heap.size (S.ps.length + 1) (S.ps.length + 1)), (7, I6 (↑i + 1))], hE167, by omega, hgs, hPz⟩, by simp only; omega⟩
  ·
   replace hb89 := of_decide_eq_false hb89
   have hEl82 : Ext [w2.heap.size] ws42 wl82 := hE79.trans hXl82 (fun b hbM => by simp at hbM; rw [hbM]; exact .inr hE68.size)
   have hie : i = S.ps.length := by omega
   have hgz2 := hgq
   rw [hie] at hP hgz2
   have hzl := hgz2.len
   refine xt2 <| hK80 _ _ <| sq fun K170 hK170 => rgn 7 <| sd ww [.p, .p, .ld (S.pv), .run (I6 S.ps.length), .p, .run ((Po ws64.heap.size (0 + S.ps.length * 2)))] [_, Rv (Builtin.len_ #[24] 3 #[S.pv]) (I6 S.ps.length) wl82, Rv (Instr.indexAt 24 (Sl ws64.heap.size (S.ps.length + 1) (S.ps.length + 1)) (I6 S.ps.length)) ((Po ws64.heap.size (0 + S.ps.length * 2))) wl82] [(112, .agg #[I6 (-77), .slice none 0 0]), (113, (Po ws64.heap.size (0 + S.ps.length * 2)))] [] 6 1 hS (hB83.k 3 (.c (rlr 73 hG.prods) (.c (ixs 73 2 S.ps.length) .nil))) fun a hS => eff_store_ownN ww (r := 0) (b := ws64.heap.size) (off := 0 + S.ps.length * 2) (vs := [I6 (-77), .slice none 0 0]) (xs := (pcells qs ++ xm70.drop (S.ps.length * 2))) hS (by kernel_rfl) hgz2 (by simp only [List.length_cons, List.length_nil]; omega) fun a ws171 hOs171 hEs171 hsz171 hS => ?_
   have hB172 := hB83.ext hEs171 (by simpa using hn70_70)
   have hB173 := hB84.ext hEs171 (by simpa using hn70_71)
   have hB174 := hB85.ext hEs171 (by simpa using hn70_72)
   have hB175 := hB86.ext hEs171 (by simpa using hn70_73)
   have hE176 : Ext [w2.heap.size] ws42 ws171 := hEl82.trans hEs171 (fun b hb => by simp at hb; subst hb; exact .inr hE68.size)
   have hG177 : PdsOk ws171 wm70.heap.size S S.ps.length qs := hP.extN hEs171 hgpN
   refine sge hK170 <| sq fun K178 hK178 => ?_
   have hgp : OwnR ws171 73 2 (ws64.heap.size) (S.ps.length + 1) (S.ps.length + 1) (setL (pcells qs ++ xm70.drop (S.ps.length * 2)) (0 + S.ps.length * 2) markP) := hOs171
   rw [fill_mark (by rw [pcells_len, hP.len]) hxm70 rfl] at hgp
   refine fn3 [.q .p, .q .p, .q (.ld (S.lv)), .q (.run (I6 S.lx.length)), .q (.run (Sl w7.heap.size S.lx.length (S.lx.length + 1))), .q .p, .q .p, .q (.ld (S.nv)), .q (.run (I6 S.ns.length)), .q (.run (Sl ws42.heap.size S.ns.length (S.ns.length + 1))), .q .p, .q (.ld (I6 S.st)), .q .p, .q .p, .q (.ld (S.pv)), .q (.run (I6 S.ps.length)), .q (.run (Sl ws64.heap.size S.ps.length (S.ps.length + 1))), .q .p, .e] [0, 0, 0, 0, 0, 0, 0, 0, 0, 0, 0, 0, 0, 0, 0, 0, 0, 0, 0] [0, 0, 0, 0, 0, 0, 0, 0, 0, 0, 0, 0, 0, 0, 0, 0, 0, 0, 0] [0, 0, 2, 6, 15, 0, 0, 64, 192, 480, 0, 1024, 0, 0, 8192, 24576, 61440, 131071, 262143] [18] 1 ([(1, (Pv w.heap.size)), (2, (Pv w2.heap.size)), (3, Sl w7.heap.size (S.lx.length + 1) (S.lx.length + 1)), (5, Sl ws42.heap.size (S.ns.length + 1) (S.ns.length + 1)), (6, Sl ws64.heap.size (S.ps.length + 1) (S.ps.length + 1)), (7, I6 i), (114, Sl w7.heap.size (S.lx.length + 1) (S.lx.length + 1)), (115, (Pv w.heap.size)), (116, S.lv), (117, I6 S.lx.length), (118, Sl w7.heap.size S.lx.length (S.lx.length + 1)), (119, Sl ws42.heap.size (S.ns.length + 1) (S.ns.length + 1)), (120, (Po w.heap.size 1)), (121, S.nv), (122, I6 S.ns.length), (123, Sl ws42.heap.size S.ns.length (S.ns.length + 1)), (124, (Po w.heap.size 2)), (125, I6 S.st), (126, Sl ws64.heap.size (S.ps.length + 1) (S.ps.length + 1)), (127, (Po w.heap.size 3)), (128, S.pv), (129, I6 S.ps.length), (130, Sl ws64.heap.size S.ps.length (S.ps.length + 1)), (131, .agg #[Sl w7.heap.size S.lx.length (S.lx.length + 1), Sl ws42.heap.size S.ns.length (S.ns.length + 1), I6 S.st, Sl ws64.heap.size S.ps.length (S.ps.length + 1)])]) [ws171.drew, upd (ws171.drew) (w2.heap.size) 26 #[Sl w7.heap.size S.lx.length (S.lx.length + 1), Sl ws42.heap.size S.ns.length (S.ns.length + 1), I6 S.st, Sl ws64.heap.size S.ps.length (S.ps.length + 1)]] ws171.drew (fun w' => [(2, [w'.cell? ⟨w.heap.size, 0, none⟩ = some (S.lv)]), (3, [Rv (Builtin.len_ #[22] 3 #[S.lv]) (I6 S.lx.length) w']), (4, [Rv (Instr.sliceAt 22 (Sl w7.heap.size (S.lx.length + 1) (S.lx.length + 1)) none (some (I6 S.lx.length)) none) (Sl w7.heap.size S.lx.length (S.lx.length + 1)) w']), (7, [w'.cell? ⟨w.heap.size, 1, none⟩ = some (S.nv)]), (8, [Rv (Builtin.len_ #[23] 3 #[S.nv]) (I6 S.ns.length) w']), (9, [Rv (Instr.sliceAt 23 (Sl ws42.heap.size (S.ns.length + 1) (S.ns.length + 1)) none (some (I6 S.ns.length)) none) (Sl ws42.heap.size S.ns.length (S.ns.length + 1)) w']), (11, [w'.cell? ⟨w.heap.size, 2, none⟩ = some (I6 S.st)]), (14, [w'.cell? ⟨w.heap.size, 3, none⟩ = some (S.pv)]), (15, [Rv (Builtin.len_ #[24] 3 #[S.pv]) (I6 S.ps.length) w']), (16, [Rv (Instr.sliceAt 24 (Sl ws64.heap.size (S.ps.length + 1) (S.ps.length + 1)) none (some (I6 S.ps.length)) none) (Sl ws64.heap.size S.ps.length (S.ps.length + 1)) w'])]) [1, 2, 3, 5, 6, 7] [] hS (fun _ => by kernel_rfl) ?_ ?_ ?_
   ·intro e w' hw
    refine (.c ?_ (.c ?_ (.c ?_ (.c ?_ (.c ?_ (.c ?_ (.c ?_ (.c ?_ (.c ?_ (.c ?_ .nil))))))))))
    ·intro h1 h2
     obtain rfl := Nat.le_antisymm h2 h1
     obtain rfl : w' = ws171.drew := hw.trans (by kernel_rfl)
     exact (.c ((hB172.drew : Blk ws171.drew w.heap.size 26 (S.ca)).cell 0 rfl) .nil)
    ·exact fun _ _ => (.c (rlr 100 hG.lex) .nil)
    ·exact fun _ _ => (.c (sl_h (E := 100) (size := 8) (h := S.lx.length) (by kernel_rfl) (by kernel_rfl) rfl (by omega)) .nil)
    ·intro h1 h2
     obtain rfl := Nat.le_antisymm h2 h1
     obtain rfl : w' = ws171.drew := hw.trans (by kernel_rfl)
     exact (.c ((hB172.drew : Blk ws171.drew w.heap.size 26 (S.ca)).cell 1 rfl) .nil)
    ·exact fun _ _ => (.c (rlr 9 hG.names) .nil)
    ·exact fun _ _ => (.c (sl_h (E := 9) (size := 1) (h := S.ns.length) (by kernel_rfl) (by kernel_rfl) rfl (by omega)) .nil)
    ·intro h1 h2
     obtain rfl := Nat.le_antisymm h2 h1
     obtain rfl : w' = ws171.drew := hw.trans (by kernel_rfl)
     exact (.c ((hB172.drew : Blk ws171.drew w.heap.size 26 (S.ca)).cell 2 rfl) .nil)
    ·intro h1 h2
     obtain rfl := Nat.le_antisymm h2 h1
     obtain rfl : w' = ws171.drew := hw.trans (by kernel_rfl)
     exact (.c ((hB172.drew : Blk ws171.drew w.heap.size 26 (S.ca)).cell 3 rfl) .nil)
    ·exact fun _ _ => (.c (rlr 73 hG.prods) .nil)
    ·exact fun _ _ => (.c (sl_h (E := 73) (size := 2) (h := S.ps.length) (by kernel_rfl) (by kernel_rfl) rfl (by omega)) .nil)
   ·refine (.c ?eq179_18 .nil)
    ·refine eff_at (ws171.drew) (upd (ws171.drew) (w2.heap.size) 26 #[Sl w7.heap.size S.lx.length (S.lx.length + 1), Sl ws42.heap.size S.ns.length (S.ns.length + 1), I6 S.st, Sl ws64.heap.size S.ps.length (S.ps.length + 1)]) (by kernel_rfl) (by kernel_rfl) ?_
     exact upon_store (b := w2.heap.size) (off := 0) (vs := [Sl w7.heap.size S.lx.length (S.lx.length + 1), Sl ws42.heap.size S.ns.length (S.ns.length + 1), I6 S.st, Sl ws64.heap.size S.ps.length (S.ps.length + 1)]) (by kernel_rfl) (hB173.drew : Blk ws171.drew w2.heap.size 26 (#[.slice none 0 0, .slice none 0 0, I6 0, .slice none 0 0])) (by simp) ⟨by kernel_rfl, by kernel_rfl⟩
   rintro a w180 hS hw181
   replace hw181 : w180 = upd (ws171.drew) (w2.heap.size) 26 #[Sl w7.heap.size S.lx.length (S.lx.length + 1), Sl ws42.heap.size S.ns.length (S.ns.length + 1), I6 S.st, Sl ws64.heap.size S.ps.length (S.ps.length + 1)] := hw181.trans (by kernel_rfl)
   have hB183 : Blk w180 w2.heap.size 26 (#[Sl w7.heap.size S.lx.length (S.lx.length + 1), Sl ws42.heap.size S.ns.length (S.ns.length + 1), I6 S.st, Sl ws64.heap.size S.ps.length (S.ps.length + 1)]) := by rw [hw181]; exact (hB173.drew).upd _ _
   have hB184 := OwnR.at' hw181 ((hB174.drew).updNe hn15_16 _ _)
   have hB185 := OwnR.at' hw181 ((hB175.drew).updNe hn49_50 _ _)
   have hB186 := OwnR.at' hw181 ((hgp.drew).updNe hn70_71 _ _)
   have hE187 : Ext [w2.heap.size] ws42 w180 := by rw [hw181]; exact (hE176.drew).updIn (.inl (by simp)) _ _
   have hX188 : Ext [w2.heap.size] ws171 w180 := by rw [hw181]; exact ((Ext.refl _ _).drew).updIn (.inl (by simp)) _ _
   have hG189 : PdsOk w180 wm70.heap.size S S.ps.length qs := hG177.extN hX188 h2N2
   replace hS := hS.kp [(1, (Pv w.heap.size)), (2, (Pv w2.heap.size)), (3, Sl w7.heap.size (S.lx.length + 1) (S.lx.length + 1)), (5, Sl ws42.heap.size (S.ns.length + 1) (S.ns.length + 1)), (6, Sl ws64.heap.size (S.ps.length + 1) (S.ps.length + 1)), (7, I6 i)]
   refine hK178 _ _ <| wpIn_ret ?_
   have hLe : LentOk w180 w.heap.size S xs (w7.heap.size) (ws42.heap.size) (ws64.heap.size) ls qs := ⟨(hLl.extN hE187 (fun x hx => by simp at hx; rw [hx]; exact h2N1)).mono hE20.size, hG189.mono ((hE45.t1 hE79 hs12)).size, hB184, hB185, hB186, hgl0, Nat.le_trans hE45.size hEr48.size, Nat.le_trans hE45.size hE68.size⟩
   refine retA1 hS Tryd.results13 (by kernel_rfl) (by kernel_rfl) rfl hB183 ?_
   exact ⟨_, _, _, _, _, congrArg (fun c => Ending.returned (.agg c)) hLe.ca.symm, hLe, (hE45.t1 hE187 hs12)⟩
end Go.Proofs.YtkkpghlcmcaoiaaDoor
