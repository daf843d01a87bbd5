import Derived.Test.YtpglmeeledmkoaaProg
import Derived.Test.YtpglmeeledmkoaaVc
import Derived.Test.YtpglmeeledmkoaaJw
namespace Go.Proofs.Ytpglmeeledmkoaa
open Go.Vc

set_option maxHeartbeats 2000000 in
theorem Find_any {s0 s1 : Nat} {L : List Rf} {r q : Rf} {st : List Stp} {p : Int} {pv : Value} {w : World} (hF : FOk w s0 s1 L) (hr : r ∈ L) (hj : JW r st q p) (hv : OwnV w 3 1 pv st.length (ints (idx st))) :
  Calls Try.prog 75 #[(Pv r.rb), pv] w fun e w' => e = .returned (.agg #[(Pv q.rb), I6 p, pv]) ∧ Ext [] w w' := by
 obtain ⟨pb, pc, rfl⟩ := hv.form
 have hbdr := hF.tt hr
 have hbq := hj.bd hF hr
 have hqt := hF.tt (hj.mem hF hr)
 refine calls_body 51 [(0, (Pv r.rb)), (1, (.slice pb st.length pc))] Try.func75 rfl (by kernel_rfl) (by kernel_rfl) (by kernel_rfl) fun a hS => ?_
 have hE0 : Ext [] w w := Ext.refl _ _
 refine sq fun K1 hK1 => ?_
 refine rgn 1 ?_
 refine eff_box wide_wide (r := 0) (cs := #[.pointer none, I6 0, .slice none 0 0]) (T := 43) (d := (some 4)) hS (by kernel_rfl) fun a w2 hw3 hS => ?_
 have hB4 : Blk w2 (w.heap.size) 43 #[.pointer none, I6 0, .slice none 0 0] := by rw [hw3]; exact Blk.new _ _ _
 have hs5 : w.heap.size ≤ w.heap.size := hE0.size
 have hE6 : Ext [] w w2 := by rw [hw3]; exact hE0.alloc _
 refine seg_end ?_
 refine hK1 _ _ ?_
 refine sq fun K7 hK7 => ?_
 refine rgn 5 ?_
 refine sg wide_wide [.p, .p, .p] [] [(0, (Pv r.rb)), (1, (.slice pb st.length pc)), (4, (Pv w.heap.size)), (10, .agg #[(Pv r.rb), I6 0, (.slice pb st.length pc)])] 3 2 hS .nil fun a hS => ?_
 refine eff_box wide_wide (r := 1) (cs := #[.pointer none, I6 0, .slice none 0 0]) (T := 43) (d := (some 5)) hS (by kernel_rfl) fun a w8 hw9 hS => ?_
 have hn10 : w.heap.size ≠ w2.heap.size := Nat.ne_of_lt hB4.lt
 have hB11 := Blk.at' hw9 (hB4.alloc _)
 have hB12 : Blk w8 (w2.heap.size) 43 #[.pointer none, I6 0, .slice none 0 0] := by rw [hw9]; exact Blk.new _ _ _
 have hs13 : w.heap.size ≤ w2.heap.size := hE6.size
 have hE14 : Ext [] w w8 := by rw [hw9]; exact hE6.alloc _
 refine eff_store wide_wide (r := 0) (b := w2.heap.size) (off := 0) (vs := [(Pv r.rb), I6 0, (.slice pb st.length pc)]) hS (by kernel_rfl) hB12 (by simp) fun a w15 hw16 hS => ?_
 have hB17 := Blk.at' hw16 (hB11.updNe (Ne.symm hn10) _ _)
 have hB18 : Blk w15 w2.heap.size 43 (#[(Pv r.rb), I6 0, (.slice pb st.length pc)]) := by rw [hw16]; exact hB12.upd _ _
 have hE19 : Ext [] w w15 := by rw [hw16]; exact hE14.updIn (.inr hs13) _ _
 refine seg_end ?_
 refine hK7 _ _ ?_
 refine sq fun K20 hK20 => ?_
 refine sq fun K21 hK21 => ?_
 refine rgn 1 ?_
 refine sg wide_wide [.p] [] [(0, (Pv r.rb)), (1, (.slice pb st.length pc)), (4, (Pv w.heap.size)), (5, (Pv w2.heap.size)), (6, I6 0)] 1 0 hS .nil fun a hS => ?_
 refine seg_end ?_
 refine hK21 _ _ ?_
 refine wpIn_block ?_
 replace hS := hS.keepTo [0, 1, 4, 5, 6] (m' := [(0, (Pv r.rb)), (1, (.slice pb st.length pc)), (4, (Pv w.heap.size)), (5, (Pv w2.heap.size)), (6, I6 0)]) (by kernel_rfl)
 have hAB : w.heap.size ≠ w2.heap.size := hn10
 have hA0 := hB17
 have hB0 := hB18
 obtain ⟨A, heA⟩ : ∃ x, x = w.heap.size := ⟨_, rfl⟩
 obtain ⟨B, heB⟩ : ∃ x, x = w2.heap.size := ⟨_, rfl⟩
 rw [← heA] at hS hA0 hAB
 rw [← heB] at hS hB0 hAB
 have hnA : w.heap.size ≤ A := by rw [heA]; exact hs5
 have hnB : w.heap.size ≤ B := by rw [heB]; exact hs13
 refine loop_ghost (fun ((k, q1, p1) : Nat × Rf × Int) a' w' => St 51 [] [(0, (Pv r.rb)), (1, (.slice pb st.length pc)), (4, (Pv A)), (5, (Pv B)), (6, I6 ↑k)] a' ∧ k ≤ st.length ∧ JW r (st.take k) q1 p1 ∧ Blk w' A 43 #[.pointer none, I6 0, .slice none 0 0] ∧ Blk w' B 43 #[(Pv q1.rb), I6 p1, (.slice pb st.length pc)] ∧ Ext [] w w') (fun ((k, q1, p1) : Nat × Rf × Int) => st.length - k) (0, r, 0) ⟨hS.keepTo [0, 1, 4, 5, 6] (by kernel_rfl), Nat.zero_le _, by simpa using JW.nil, hA0, hB0, hE19⟩ ?_
 rintro ⟨k, q1, p1⟩ a w1 ⟨hS, hkl0, hjk, hA, hB, hEx⟩
 have hF1 := hF.ext0 hEx
 have hqm1 := hjk.mem hF hr
 refine sq fun K22 hK22 => ?_
 refine sq fun K23 hK23 => ?_
 refine rgn 4 ?_
 refine sg wide_wide [.p, .p, .run (I6 ↑st.length), .p] [Ru Try.prog (vS (Builtin.len_ #[41] 3 #[(.slice pb st.length pc)])) (I6 ↑st.length) w1] [(0, (Pv r.rb)), (1, (.slice pb st.length pc)), (4, (Pv A)), (5, (Pv B)), (6, I6 ↑k), (14, .bool (decide ((↑k : Int) < ↑st.length)))] 4 0 hS (.cons (run_len_own hv (by kernel_rfl)) .nil) fun a hS => ?_
 refine seg_end ?_
 refine hK23 _ _ ?_
 refine cond_b hS rfl (fun hb24 => ?_) (fun hb24 => ?_)
 ·
  replace hb24 := of_decide_eq_true hb24
  have hk : k < st.length := by omega
  obtain ⟨s, hs⟩ : ∃ s, st[k]? = some s := ⟨_, List.getElem?_eq_getElem hk⟩
  obtain ⟨q2, p2, hj2⟩ := hj.take (k + 1) (by omega)
  have htk : st.take (k + 1) = st.take k ++ [s] := by rw [List.take_succ_eq_append_getElem hk, (List.getElem?_eq_some_iff.1 hs).2]
  have hj2' := hj2
  rw [htk] at hj2'
  obtain ⟨qq, pp, kk, g1, g2, g3, g4⟩ := hj2'.unsnoc
  obtain ⟨rfl, rfl⟩ := hjk.det g1
  have hpc : (ints (idx st))[k]? = some (I6 (kk : Int)) := by simp [ints, idx, hs, g3]
  have hkl := (List.getElem?_eq_some_iff.1 g2).1
  have hkle := hF.kids_le hqm1
  have hq1t := hF.tt hqm1
  have hb1 := hjk.bd hF hr
  have hrown1 := (hF1.one q1 hqm1).row
  refine wpIn_skip ?_
  refine hK22 _ _ ?_
  refine sq fun K25 hK25 => ?_
  refine wpIn_block ?_
  refine sq fun K26 hK26 => ?_
  refine sq fun K27 hK27 => ?_
  refine rgn 1 ?_
  refine sg wide_wide [.p] [] [(0, (Pv r.rb)), (1, (.slice pb st.length pc)), (4, (Pv A)), (5, (Pv B)), (6, I6 ↑k), (7, I6 0)] 1 0 hS .nil fun a hS => ?_
  refine seg_end ?_
  refine hK27 _ _ ?_
  refine wpIn_block ?_
  refine loop_ghost (fun (i : Nat) a' w' => St 51 [] [(0, (Pv r.rb)), (1, (.slice pb st.length pc)), (4, (Pv A)), (5, (Pv B)), (6, I6 ↑k), (7, I6 ↑i)] a' ∧ i ≤ kk ∧ Blk w' A 43 #[.pointer none, I6 0, .slice none 0 0] ∧ Blk w' B 43 #[(Pv q1.rb), I6 (p1 + sumW ((q1.kids.take i).map Rf.t)), (.slice pb st.length pc)] ∧ Ext [] w w') (fun (i : Nat) => kk - i) 0 ⟨hS.keepTo [0, 1, 4, 5, 6, 7] (by kernel_rfl), Nat.zero_le _, hA, by simpa [sumW] using hB, hEx⟩ ?_
  rintro i a w2 ⟨hS, hil, hA2, hB2, hEy⟩
  have hF2 := hF.ext0 hEy
  have hst := sums_take hF hqm1 i
  have hrown2 := (hF2.one q1 hqm1).row
  have hBn2 : Blk w2 q1.rb 40 #[I6 q1.k, I6 ↑q1.i, I6 q1.t.kd, I6 q1.t.nn, I6 q1.t.lk, I6 q1.t.ls, I6 q1.t.ll, I6 q1.t.lr, q1.kv, I6 q1.t.tt] := (hF2.one q1 hqm1).blk
  refine sq fun K28 hK28 => ?_
  refine sq fun K29 hK29 => ?_
  refine rgn 6 ?_
  refine sg wide_wide [.p, .p, .p, .run ((Po (bof (.slice pb st.length pc)) (0 + k * 1))), .ld (I6 ↑kk), .p] [Ru Try.prog (vS (Instr.indexAt 41 ((.slice pb st.length pc)) (I6 ↑k))) ((Po (bof (.slice pb st.length pc)) (0 + k * 1))) w2, w2.cell? ⟨bof (.slice pb st.length pc), 0 + k * 1, none⟩ = some (I6 ↑kk)] [(0, (Pv r.rb)), (1, (.slice pb st.length pc)), (4, (Pv A)), (5, (Pv B)), (6, I6 ↑k), (7, I6 ↑i), (22, .bool (decide ((↑i : Int) < ↑kk)))] 6 0 hS (.cons (ix_own (j := k) hv (by kernel_rfl) (by kernel_rfl) rfl hk) (.cons ((hv.ext0' hEy).cellAt _ (by simpa using hpc)) .nil)) fun a hS => ?_
  refine seg_end ?_
  refine hK29 _ _ ?_
  refine cond_b hS rfl (fun hb30 => ?_) (fun hb30 => ?_)
  ·
   replace hb30 := of_decide_eq_true hb30
   have hi : i < kk := by omega
   obtain ⟨kid, hkid⟩ : ∃ x, q1.kids[i]? = some x := ⟨_, List.getElem?_eq_getElem (by omega)⟩
   have hkm := hF.mem hqm1 (List.mem_of_getElem? hkid)
   have hst2 := sums_take hF hqm1 (i + 1)
   have hkt := hF.tt hkm
   have hsn : sumW ((q1.kids.take (i + 1)).map Rf.t) = sumW ((q1.kids.take i).map Rf.t) + kid.t.wd := by rw [rf_take_succ hkid, List.map_append]; exact sumW_snoc _ _
   refine wpIn_skip ?_
   refine hK28 _ _ ?_
   refine sq fun K31 hK31 => ?_
   refine wpIn_block ?_
   refine region_gh2 (G := World) wide_wide [.q .p, .q (.ld (I6 (p1 + sumW ((q1.kids.take i).map Rf.t)))), .q .p, .q (.ld ((Pv q1.rb))), .q .p, .q .p, .q (.ld (q1.kv)), .q .p, .q (.run ((Po (bof q1.kv) (0 + i * 1)))), .q (.ld ((Pv kid.rb))), .e, .q (.as (I6 ((p1 + sumW ((q1.kids.take i).map Rf.t)) + kid.t.wd))), .q .p, .e] [0, 0, 0, 0, 0, 0, 0, 0, 0, 0, 0, 1, 1, 1] [1, 1, 0, 0, 0, 0, 0, 0, 0, 0, 0, 1, 1, 1] [0, 1, 0, 4, 12, 28, 60, 0, 252, 508, 1020, 2047, 4095, 8191] [10, 13] [(10, 0), (13, 1)] 2 (fun w65 => ([(0, (Pv r.rb)), (1, (.slice pb st.length pc)), (4, (Pv A)), (5, (Pv B)), (6, I6 ↑k), (7, I6 ↑i), (25, (Po B 1)), (26, I6 (p1 + sumW ((q1.kids.take i).map Rf.t))), (27, (Pv B)), (28, (Pv q1.rb)), (29, (Pv q1.rb)), (30, (Po q1.rb 8)), (31, q1.kv), (32, I6 ↑i), (33, (Po (bof q1.kv) (0 + i * 1))), (34, (Pv kid.rb)), (35, I6 kid.t.wd), (36, I6 ((p1 + sumW ((q1.kids.take i).map Rf.t)) + kid.t.wd)), (37, (Po B 1))] : Fm)) (fun w65 => [w2.drew, w65, upd (w65) (B) 43 #[(Pv q1.rb), I6 ((p1 + sumW ((q1.kids.take i).map Rf.t)) + kid.t.wd), (.slice pb st.length pc)]]) (w2.drew) (fun e w65 => hAt [True, (Ext [] w2.drew w65) ∧ True, (Ext [] w2.drew w65) ∧ True] e) (fun w65 w' => [(1, [w'.cell? ⟨B, 1, none⟩ = some (I6 (p1 + sumW ((q1.kids.take i).map Rf.t)))]), (3, [w'.cell? ⟨B, 0, none⟩ = some ((Pv q1.rb))]), (6, [w'.cell? ⟨q1.rb, 8, none⟩ = some (q1.kv)]), (8, [Ru Try.prog (vS (Instr.indexAt 33 (q1.kv) (I6 ↑i))) ((Po (bof q1.kv) (0 + i * 1))) w']), (9, [w'.cell? ⟨bof q1.kv, 0 + i * 1, none⟩ = some ((Pv kid.rb))]), (11, [Value.int .i64 (IntKind.i64.wrap ((p1 + sumW ((q1.kids.take i).map Rf.t)) + kid.t.wd)) = I6 ((p1 + sumW ((q1.kids.take i).map Rf.t)) + kid.t.wd)])]) w2.drew [0, 1, 4, 5, 6, 7] [] hS (by kernel_rfl) (by kernel_rfl) (by kernel_rfl) (by kernel_rfl) (fun w65 _ => by kernel_rfl) (by kernel_rfl) (by kernel_rfl) (by kernel_rfl) trivial ?_ (by kernel_rfl) ?_ ?_
   ·rintro e w65 w' hw hH
    refine (.cons ?_ (.cons ?_ (.cons ?_ (.cons ?_ (.cons ?_ (.cons ?_ .nil))))))
    ·intro h1 h2
     replace h1 : 0 ≤ e := h1
     replace h2 : e ≤ 1 := h2
     have he : e = 0 ∨ e = 1 := by omega
     rcases he with rfl | rfl
     ·have hwe : w2.drew = w' := (hw.trans (by kernel_rfl)).symm
      subst hwe
      clear hH
      exact (.cons ((hB2.drew : Blk w2.drew B 43 (#[(Pv q1.rb), I6 (p1 + sumW ((q1.kids.take i).map Rf.t)), (.slice pb st.length pc)])).cell 1 rfl) .nil)
     ·have hwe : w65 = w' := (hw.trans (by kernel_rfl)).symm
      subst hwe
      obtain ⟨hE65, _⟩ := hH
      exact (.cons (((hB2.drew).ext hE65 (by simp) : Blk w65 B 43 (#[(Pv q1.rb), I6 (p1 + sumW ((q1.kids.take i).map Rf.t)), (.slice pb st.length pc)])).cell 1 rfl) .nil)
    ·intro h1 h2
     obtain rfl : e = 0 := Nat.le_antisymm h2 h1
     have hwe : w2.drew = w' := (hw.trans (by kernel_rfl)).symm
     subst hwe
     clear hH
     exact (.cons ((hB2.drew : Blk w2.drew B 43 (#[(Pv q1.rb), I6 (p1 + sumW ((q1.kids.take i).map Rf.t)), (.slice pb st.length pc)])).cell 0 rfl) .nil)
    ·intro h1 h2
     obtain rfl : e = 0 := Nat.le_antisymm h2 h1
     have hwe : w2.drew = w' := (hw.trans (by kernel_rfl)).symm
     subst hwe
     clear hH
     exact (.cons ((hBn2.drew : Blk w2.drew q1.rb 40 (#[I6 q1.k, I6 ↑q1.i, I6 q1.t.kd, I6 q1.t.nn, I6 q1.t.lk, I6 q1.t.ls, I6 q1.t.ll, I6 q1.t.lr, q1.kv, I6 q1.t.tt])).cell 8 rfl) .nil)
    ·intro h1 h2
     obtain rfl : e = 0 := Nat.le_antisymm h2 h1
     have hwe : w2.drew = w' := (hw.trans (by kernel_rfl)).symm
     subst hwe
     clear hH
     exact (.cons (ix_own (j := i) hrown2 (by kernel_rfl) (by kernel_rfl) rfl (by omega)) .nil)
    ·intro h1 h2
     obtain rfl : e = 0 := Nat.le_antisymm h2 h1
     have hwe : w2.drew = w' := (hw.trans (by kernel_rfl)).symm
     subst hwe
     clear hH
     exact (.cons ((hrown2.ext0' (Ext.refl [] w2).drew).cellAt _ (by simp [hkid, Rf.ptr])) .nil)
    ·intro h1 h2
     obtain rfl : e = 1 := Nat.le_antisymm h2 h1
     have hwe : w65 = w' := (hw.trans (by kernel_rfl)).symm
     subst hwe
     obtain ⟨hE65, _⟩ := hH
     exact (.cons (as_i64 (by omega)) .nil)
   ·refine (.cons ?eq32_10 (.cons ?eq32_13 .nil))
    ·rintro w65 hH
     clear hH
     refine eff_gh (w2.drew) (by kernel_rfl) ?_
     refine upon_call (f := 65) (vs := [(Pv kid.rb)]) (cap := #[]) (d := (some 35)) (by kernel_rfl) Try.call65 #[(Pv kid.rb)] (by kernel_rfl) (RWidth kid hkm (w2.drew) (hF.ext0 (hEy.drew))) ?_
     rintro _ w65 ⟨rfl, hE65⟩
     exact ⟨_, rfl, ⟨w65, by kernel_rfl, by kernel_rfl, by kernel_rfl, ⟨hE65, trivial⟩⟩⟩
    ·rintro w65 hH
     obtain ⟨hE65, _⟩ := hH
     refine eff_gh (w65) (by kernel_rfl) ?_
     exact upon_store (b := B) (off := 1) (vs := [I6 ((p1 + sumW ((q1.kids.take i).map Rf.t)) + kid.t.wd)]) (by kernel_rfl) ((hB2.drew).ext hE65 (by simp) : Blk w65 B 43 (#[(Pv q1.rb), I6 (p1 + sumW ((q1.kids.take i).map Rf.t)), (.slice pb st.length pc)])) (by simp) ⟨w65, by kernel_rfl, by kernel_rfl, by kernel_rfl, ⟨hE65, trivial⟩⟩
   rintro w65 a w33 hS hw34 hH
   obtain ⟨hE65, _⟩ := hH
   replace hw34 : w33 = upd (w65) (B) 43 #[(Pv q1.rb), I6 ((p1 + sumW ((q1.kids.take i).map Rf.t)) + kid.t.wd), (.slice pb st.length pc)] := hw34.trans (by kernel_rfl)
   have hB35 := Blk.at' hw34 (((hA2.drew).ext hE65 (by simp)).updNe (Ne.symm hAB) _ _)
   have hB36 : Blk w33 B 43 (#[(Pv q1.rb), I6 ((p1 + sumW ((q1.kids.take i).map Rf.t)) + kid.t.wd), (.slice pb st.length pc)]) := by rw [hw34]; exact ((hB2.drew).ext hE65 (by simp)).upd _ _
   have hE38 : Ext [] w w33 := by rw [hw34]; exact ((hEy.drew).trans0 hE65).updIn (.inr hnB) _ _
   replace hS := hS.kp [(0, (Pv r.rb)), (1, (.slice pb st.length pc)), (4, (Pv A)), (5, (Pv B)), (6, I6 ↑k), (7, I6 ↑i)]
   refine inBlock_normal ?_
   refine hK31 _ _ ?_
   refine rgn 3 ?_
   refine sg wide_wide [.p, .as (I6 (↑i + 1)), .p] [Value.int .i64 (IntKind.i64.wrap (↑i + 1)) = I6 (↑i + 1)] [(0, (Pv r.rb)), (1, (.slice pb st.length pc)), (4, (Pv A)), (5, (Pv B)), (6, I6 ↑k), (7, I6 (↑i + 1))] 3 0 hS (.cons (as_i64 (by omega)) .nil) fun a hS => ?_
   refine seg_end ?_
   exact ⟨i + 1, ⟨hS.keepTo [0, 1, 4, 5, 6, 7] (by kernel_rfl), by omega, hB35, by rw [hsn, ← Int.add_assoc]; exact hB36, hE38⟩, by omega⟩
  ·
   replace hb30 := of_decide_eq_false hb30
   obtain rfl : i = kk := by omega
   rw [← g4] at hB2
   refine wpIn_exit ?_
   refine then_exit ?_
   refine then_exit ?_
   refine inBlock_hit ?_
   refine hK26 _ _ ?_
   refine region_fn2 wide_wide [.q .p, .q (.ld ((Pv q1.rb))), .q .p, .q .p, .q (.ld (q1.kv)), .q .p, .q .p, .q (.run ((Po (bof (.slice pb st.length pc)) (0 + k * 1)))), .q (.ld (I6 ↑i)), .q (.run ((Po (bof q1.kv) (0 + i * 1)))), .q (.ld ((Pv q2.rb))), .q .p, .e] [0, 0, 0, 0, 0, 0, 0, 0, 0, 0, 0, 0, 0] [0, 0, 0, 0, 0, 0, 0, 0, 0, 0, 0, 0, 0] [0, 1, 3, 7, 15, 0, 0, 96, 224, 511, 1023, 2047, 4095] [12] 1 ([(0, (Pv r.rb)), (1, (.slice pb st.length pc)), (4, (Pv A)), (5, (Pv B)), (6, I6 ↑k), (38, (Pv B)), (39, (Pv q1.rb)), (40, (Pv q1.rb)), (41, (Po q1.rb 8)), (42, q1.kv), (43, (.slice pb st.length pc)), (44, I6 ↑k), (45, (Po (bof (.slice pb st.length pc)) (0 + k * 1))), (46, I6 ↑i), (47, (Po (bof q1.kv) (0 + i * 1))), (48, (Pv q2.rb)), (49, (Pv B))]) [w2.drew, upd (w2.drew) (B) 43 #[(Pv q2.rb), I6 p2, (.slice pb st.length pc)]] w2.drew (fun w' => [(1, [w'.cell? ⟨B, 0, none⟩ = some ((Pv q1.rb))]), (4, [w'.cell? ⟨q1.rb, 8, none⟩ = some (q1.kv)]), (7, [Ru Try.prog (vS (Instr.indexAt 41 ((.slice pb st.length pc)) (I6 ↑k))) ((Po (bof (.slice pb st.length pc)) (0 + k * 1))) w']), (8, [w'.cell? ⟨bof (.slice pb st.length pc), 0 + k * 1, none⟩ = some (I6 ↑i)]), (9, [Ru Try.prog (vS (Instr.indexAt 33 (q1.kv) (I6 ↑i))) ((Po (bof q1.kv) (0 + i * 1))) w']), (10, [w'.cell? ⟨bof q1.kv, 0 + i * 1, none⟩ = some ((Pv q2.rb))])]) [0, 1, 4, 5, 6] [] hS (by kernel_rfl) (by kernel_rfl) (by kernel_rfl) (by kernel_rfl) (fun _ => by kernel_rfl) (by kernel_rfl) (by kernel_rfl) (by kernel_rfl) ?_ ?_ ?_
   ·intro e w' hw
    refine (.cons ?_ (.cons ?_ (.cons ?_ (.cons ?_ (.cons ?_ (.cons ?_ .nil))))))
    ·intro h1 h2
     obtain rfl : e = 0 := Nat.le_antisymm h2 h1
     obtain rfl : w' = w2.drew := hw.trans (by kernel_rfl)
     exact (.cons ((hB2.drew : Blk w2.drew B 43 (#[(Pv q1.rb), I6 p2, (.slice pb st.length pc)])).cell 0 rfl) .nil)
    ·intro h1 h2
     obtain rfl : e = 0 := Nat.le_antisymm h2 h1
     obtain rfl : w' = w2.drew := hw.trans (by kernel_rfl)
     exact (.cons ((hBn2.drew : Blk w2.drew q1.rb 40 (#[I6 q1.k, I6 ↑q1.i, I6 q1.t.kd, I6 q1.t.nn, I6 q1.t.lk, I6 q1.t.ls, I6 q1.t.ll, I6 q1.t.lr, q1.kv, I6 q1.t.tt])).cell 8 rfl) .nil)
    ·exact fun _ _ => (.cons (ix_own (j := k) hv (by kernel_rfl) (by kernel_rfl) rfl hk) .nil)
    ·intro h1 h2
     obtain rfl : e = 0 := Nat.le_antisymm h2 h1
     obtain rfl : w' = w2.drew := hw.trans (by kernel_rfl)
     exact (.cons ((hv.ext0' (hEy).drew).cellAt _ (by simpa using hpc)) .nil)
    ·exact fun _ _ => (.cons (ix_own (j := i) hrown2 (by kernel_rfl) (by kernel_rfl) rfl (by omega)) .nil)
    ·intro h1 h2
     obtain rfl : e = 0 := Nat.le_antisymm h2 h1
     obtain rfl : w' = w2.drew := hw.trans (by kernel_rfl)
     exact (.cons ((hrown2.ext0' (Ext.refl [] w2).drew).cellAt _ (by simp [g2, Rf.ptr])) .nil)
   ·refine (.cons ?eq39_12 .nil)
    ·refine eff_at (w2.drew) (upd (w2.drew) (B) 43 #[(Pv q2.rb), I6 p2, (.slice pb st.length pc)]) (by kernel_rfl) (by kernel_rfl) ?_
     exact upon_store (b := B) (off := 0) (vs := [(Pv q2.rb)]) (by kernel_rfl) (hB2.drew : Blk w2.drew B 43 (#[(Pv q1.rb), I6 p2, (.slice pb st.length pc)])) (by simp) ⟨by kernel_rfl, by kernel_rfl⟩
   rintro a w40 hS hw41
   replace hw41 : w40 = upd (w2.drew) (B) 43 #[(Pv q2.rb), I6 p2, (.slice pb st.length pc)] := hw41.trans (by kernel_rfl)
   have hB42 := Blk.at' hw41 ((hA2.drew).updNe (Ne.symm hAB) _ _)
   have hB43 : Blk w40 B 43 (#[(Pv q2.rb), I6 p2, (.slice pb st.length pc)]) := by rw [hw41]; exact (hB2.drew).upd _ _
   have hE45 : Ext [] w w40 := by rw [hw41]; exact (hEy.drew).updIn (.inr hnB) _ _
   replace hS := hS.kp [(0, (Pv r.rb)), (1, (.slice pb st.length pc)), (4, (Pv A)), (5, (Pv B)), (6, I6 ↑k)]
   refine inBlock_normal ?_
   refine hK25 _ _ ?_
   refine rgn 3 ?_
   refine sg wide_wide [.p, .as (I6 (↑k + 1)), .p] [Value.int .i64 (IntKind.i64.wrap (↑k + 1)) = I6 (↑k + 1)] [(0, (Pv r.rb)), (1, (.slice pb st.length pc)), (4, (Pv A)), (5, (Pv B)), (6, I6 (↑k + 1))] 3 0 hS (.cons (as_i64 (by omega)) .nil) fun a hS => ?_
   refine seg_end ?_
   exact ⟨(k + 1, q2, p2), ⟨hS.keepTo [0, 1, 4, 5, 6] (by kernel_rfl), by omega, hj2, hB42, hB43, hE45⟩, by simp; omega⟩
 ·
  replace hb24 := of_decide_eq_false hb24
  obtain rfl : k = st.length := by omega
  rw [List.take_length] at hjk
  obtain ⟨rfl, rfl⟩ := hj.det hjk
  refine wpIn_exit ?_
  refine then_exit ?_
  refine then_exit ?_
  refine inBlock_hit ?_
  refine hK20 _ _ ?_
  refine sq fun K46 hK46 => ?_
  refine rgn 2 ?_
  refine sg wide_wide [.lds [(Pv q.rb), I6 p, (.slice pb st.length pc)]] [_, _, _] [(0, (Pv r.rb)), (1, (.slice pb st.length pc)), (4, (Pv A)), (5, (Pv B)), (50, .agg #[(Pv q.rb), I6 p, (.slice pb st.length pc)])] 1 1 hS (.cons (hB.cell 0 rfl) (.cons (hB.cell 1 rfl) (.cons (hB.cell 2 rfl) .nil))) fun a hS => ?_
  refine eff_store wide_wide (r := 0) (b := A) (off := 0) (vs := [(Pv q.rb), I6 p, (.slice pb st.length pc)]) hS (by kernel_rfl) hA (by simp) fun a w47 hw48 hS => ?_
  have hB49 : Blk w47 A 43 (#[(Pv q.rb), I6 p, (.slice pb st.length pc)]) := by rw [hw48]; exact hA.upd _ _
  have hE51 : Ext [] w w47 := by rw [hw48]; exact hEx.updIn (.inr hnA) _ _
  refine seg_end ?_
  refine hK46 _ _ ?_
  refine wpIn_ret ?_
  refine retA1 hS Try.results75 (by kernel_rfl) (by kernel_rfl) rfl hB49 ?_
  exact ⟨rfl, hE51⟩

end Go.Proofs.Ytpglmeeledmkoaa
