import Derived.Test.YtpglmeeledmkoaaProg
import Derived.Test.YtpglmeeledmkoaaVc
import Derived.Test.YtpglmeeledmkoaaRf
import Derived.Test.YtpglmeeledmkoaaT15
namespace Go.Proofs.Ytpglmeeledmkoaa
open Go.Vc

theorem RWidth {s0 s1 : Nat} {L : List Rf} : ∀ (r : Rf), r ∈ L → ∀ (w : World), FOk w s0 s1 L → Calls Try.prog 65 #[(Pv r.rb)] w fun e w' => e = .returned (I6 r.t.wd) ∧ Ext [] w w' := by
 refine Rf.ind fun r ih hr w hF => ?_
 have hone := hF.one r hr
 have hrow := hone.row
 have hB : Blk w r.rb 40 #[I6 r.k, I6 ↑r.i, I6 r.t.kd, I6 r.t.nn, I6 r.t.lk, I6 r.t.ls, I6 r.t.ll, I6 r.t.lr, r.kv, I6 r.t.tt] := hone.blk
 have htt := hF.tt hr
 have hkl := hF.kids_le hr
 have hst := sums_take hF hr
 refine calls_body 43 [(0, (Pv r.rb))] Try.func65 rfl (by kernel_rfl) (by kernel_rfl) (by kernel_rfl) fun a hS => ?_
 have hE0 : Ext [] w w := Ext.refl _ _
 refine sq fun K1 hK1 => ?_
 refine rgn 1 ?_
 refine sg wide_wide [.p] [] [(0, (Pv r.rb)), (2, I6 0)] 1 0 hS .nil fun a hS => ?_
 refine seg_end ?_
 refine hK1 _ _ ?_
 refine sq fun K2 hK2 => ?_
 refine sq fun K3 hK3 => ?_
 refine rgn 5 ?_
 refine sg wide_wide [.p, .p, .p, .ld (I6 r.t.kd), .p] [_] [(0, (Pv r.rb)), (2, I6 0), (9, .bool ((r.t.kd : Int) == 1))] 5 0 hS (.cons (hB.cell 2 rfl) .nil) fun a hS => ?_
 refine seg_end ?_
 refine hK3 _ _ ?_
 refine cond_b hS rfl (fun hb4 => ?_) (fun hb4 => ?_)
 ·
  replace hb4 := test_eq_t hb4
  have hlf := hone.ok.nums.leaf hb4
  have hb1 := bt_bd r.t.ls
  have hb2 := bt_bd r.t.ll
  refine sq fun K5 hK5 => ?_
  refine region_fn2 wide_wide [.q .p, .q .p, .q .p, .q .p, .q (.ld (I6 r.t.ls)), .e, .q .p, .q .p, .q .p, .q .p, .q (.ld (I6 r.t.ll)), .e, .q (.as (I6 ((bt r.t.ls) + (bt r.t.ll)))), .q .p] [0, 0, 0, 0, 0, 0, 0, 0, 0, 0, 0, 1, 2, 2] [0, 0, 0, 0, 0, 0, 1, 1, 1, 1, 1, 1, 2, 2] [0, 1, 3, 7, 15, 31, 0, 64, 192, 448, 960, 2047, 4095, 8191] [5, 11] 2 ([(0, (Pv r.rb)), (2, I6 ((bt r.t.ls) + (bt r.t.ll))), (10, (Pv r.rb)), (11, (Pv r.rb)), (12, (Po r.rb 4)), (13, (Po r.rb 5)), (14, I6 r.t.ls), (15, I6 (bt r.t.ls)), (16, (Pv r.rb)), (17, (Pv r.rb)), (18, (Po r.rb 4)), (19, (Po r.rb 6)), (20, I6 r.t.ll), (21, I6 (bt r.t.ll)), (22, I6 ((bt r.t.ls) + (bt r.t.ll)))]) [w.drew, w.drew, w.drew] w.drew (fun w' => [(4, [w'.cell? ⟨r.rb, 5, none⟩ = some (I6 r.t.ls)]), (10, [w'.cell? ⟨r.rb, 6, none⟩ = some (I6 r.t.ll)]), (12, [Value.int .i64 (IntKind.i64.wrap ((bt r.t.ls) + (bt r.t.ll))) = I6 ((bt r.t.ls) + (bt r.t.ll))])]) [0] [] hS (by kernel_rfl) (by kernel_rfl) (by kernel_rfl) (by kernel_rfl) (fun _ => by kernel_rfl) (by kernel_rfl) (by kernel_rfl) (by kernel_rfl) ?_ ?_ ?_
  ·intro e w' hw
   refine (.cons ?_ (.cons ?_ (.cons ?_ .nil)))
   ·intro h1 h2
    obtain rfl : e = 0 := Nat.le_antisymm h2 h1
    obtain rfl : w' = w.drew := hw.trans (by kernel_rfl)
    exact (.cons ((hB.drew : Blk w.drew r.rb 40 (#[I6 r.k, I6 ↑r.i, I6 r.t.kd, I6 r.t.nn, I6 r.t.lk, I6 r.t.ls, I6 r.t.ll, I6 r.t.lr, r.kv, I6 r.t.tt])).cell 5 rfl) .nil)
   ·intro h1 h2
    replace h1 : 0 ≤ e := h1
    replace h2 : e ≤ 1 := h2
    have he : e = 0 ∨ e = 1 := by omega
    rcases he with rfl | rfl
    ·obtain rfl : w' = w.drew := hw.trans (by kernel_rfl)
     exact (.cons ((hB.drew : Blk w.drew r.rb 40 (#[I6 r.k, I6 ↑r.i, I6 r.t.kd, I6 r.t.nn, I6 r.t.lk, I6 r.t.ls, I6 r.t.ll, I6 r.t.lr, r.kv, I6 r.t.tt])).cell 6 rfl) .nil)
    ·obtain rfl : w' = w.drew := hw.trans (by kernel_rfl)
     exact (.cons ((hB.drew : Blk w.drew r.rb 40 (#[I6 r.k, I6 ↑r.i, I6 r.t.kd, I6 r.t.nn, I6 r.t.lk, I6 r.t.ls, I6 r.t.ll, I6 r.t.lr, r.kv, I6 r.t.tt])).cell 6 rfl) .nil)
   ·exact fun _ _ => (.cons (as_i64 (by omega)) .nil)
  ·refine (.cons ?eq6_5 (.cons ?eq6_11 .nil))
   ·refine eff_at (w.drew) (w.drew) (by kernel_rfl) (by kernel_rfl) ?_
    refine upon_call (f := 79) (vs := [I6 r.t.ls]) (cap := #[]) (d := (some 15)) (by kernel_rfl) Try.call79 #[I6 r.t.ls] (by kernel_rfl) (Rbytes_any r.t.ls w.drew) ?_
    rintro _ _ ⟨rfl, rfl⟩
    exact ⟨_, rfl, ⟨by kernel_rfl, by kernel_rfl⟩⟩
   ·refine eff_at (w.drew) (w.drew) (by kernel_rfl) (by kernel_rfl) ?_
    refine upon_call (f := 79) (vs := [I6 r.t.ll]) (cap := #[]) (d := (some 21)) (by kernel_rfl) Try.call79 #[I6 r.t.ll] (by kernel_rfl) (Rbytes_any r.t.ll w.drew) ?_
    rintro _ _ ⟨rfl, rfl⟩
    exact ⟨_, rfl, ⟨by kernel_rfl, by kernel_rfl⟩⟩
  rintro a w7 hS hw8
  replace hw8 : w7 = w.drew := hw8.trans (by kernel_rfl)
  have hE10 : Ext [] w w7 := by rw [hw8]; exact hE0.drew
  replace hS := hS.kp [(0, (Pv r.rb)), (2, I6 ((bt r.t.ls) + (bt r.t.ll)))]
  refine hK5 _ _ ?_
  refine wpIn_ret ?_
  refine then_ret ?_
  refine ret1 hS Try.results65 rfl ?_
  exact ⟨by rw [hlf.2.1], hE10⟩
 ·
  replace hb4 := test_eq_f hb4
  have hkd : r.t.kd ≠ 1 := hb4
  have hsm := hF.sums hr hkd
  refine wpIn_skip ?_
  refine hK2 _ _ ?_
  refine sq fun K11 hK11 => ?_
  refine rgn 1 ?_
  refine sg wide_wide [.p] [] [(0, (Pv r.rb)), (2, I6 0), (3, I6 0)] 1 0 hS .nil fun a hS => ?_
  refine seg_end ?_
  refine hK11 _ _ ?_
  refine sq fun K12 hK12 => ?_
  refine sq fun K13 hK13 => ?_
  refine rgn 1 ?_
  refine sg wide_wide [.p] [] [(0, (Pv r.rb)), (2, I6 0), (3, I6 0), (4, I6 0)] 1 0 hS .nil fun a hS => ?_
  refine seg_end ?_
  refine hK13 _ _ ?_
  refine wpIn_block ?_
  have hS0 := hS.keepTo [0, 3, 4] (m' := [(0, (Pv r.rb)), (3, I6 0), (4, I6 0)]) (by kernel_rfl)
  clear hS
  have hS : St 43 [] [(0, (Pv r.rb)), (3, I6 (sumW ((r.kids.take 0).map Rf.t))), (4, I6 ((0 : Nat) : Int))] a := by simpa [sumW] using hS0
  refine loop_ghost (fun (j : Nat) a' w' => St 43 [] [(0, (Pv r.rb)), (3, I6 (sumW ((r.kids.take j).map Rf.t))), (4, I6 ↑j)] a' ∧ j ≤ r.kids.length ∧ Ext [] w w') (fun (j : Nat) => r.kids.length - j) 0 ⟨hS.keepTo [0, 3, 4] (by kernel_rfl), Nat.zero_le _, hE0⟩ ?_
  rintro j a w1 ⟨hS, hjl, hEx⟩
  have hB1 := hB.ext hEx (by simp)
  refine sq fun K14 hK14 => ?_
  refine sq fun K15 hK15 => ?_
  refine rgn 7 ?_
  refine sg wide_wide [.p, .p, .p, .p, .ld (r.kv), .run (I6 ↑r.kids.length), .p] [_, Ru Try.prog (vS (Builtin.len_ #[33] 3 #[r.kv])) (I6 ↑r.kids.length) w1] [(0, (Pv r.rb)), (3, I6 (sumW ((r.kids.take j).map Rf.t))), (4, I6 ↑j), (29, .bool (decide ((↑j : Int) < ↑r.kids.length)))] 7 0 hS (.cons (hB1.cell 8 rfl) (.cons (run_len_own hrow (by kernel_rfl)) .nil)) fun a hS => ?_
  refine seg_end ?_
  refine hK15 _ _ ?_
  refine cond_b hS rfl (fun hb16 => ?_) (fun hb16 => ?_)
  ·
   replace hb16 := of_decide_eq_true hb16
   have hj : j < r.kids.length := by omega
   obtain ⟨q, hq⟩ : ∃ q, r.kids[j]? = some q := ⟨_, List.getElem?_eq_getElem hj⟩
   have hqm : q ∈ r.kids := List.mem_of_getElem? hq
   have htake := rf_take_succ hq
   have hs1 := hst j
   have hs2 := hst (j + 1)
   have hqt := hF.tt (hF.mem hr hqm)
   have hcell : w1.cell? ⟨bof r.kv, 0 + j * 1, none⟩ = some q.ptr := by
    rw [show 0 + j * 1 = j by omega]
    exact (hrow.ext hEx (by simp)).cellAt j (by simp [hq])
   have hsn : sumW ((r.kids.take (j + 1)).map Rf.t) = sumW ((r.kids.take j).map Rf.t) + q.t.wd := by rw [htake, List.map_append]; exact sumW_snoc _ _
   refine wpIn_skip ?_
   refine hK14 _ _ ?_
   refine sq fun K17 hK17 => ?_
   refine wpIn_block ?_
   refine rgn 11 ?_
   refine sg wide_wide [.p, .p, .p, .p, .ld (r.kv), .p, .run ((Po (bof r.kv) (0 + j * 1))), .ld ((Pv q.rb))] [_, Ru Try.prog (vS (Instr.indexAt 33 (r.kv) (I6 ↑j))) ((Po (bof r.kv) (0 + j * 1))) w1, w1.cell? ⟨bof r.kv, 0 + j * 1, none⟩ = some ((Pv q.rb))] [(0, (Pv r.rb)), (3, I6 (sumW ((r.kids.take j).map Rf.t))), (4, I6 ↑j), (32, I6 (sumW ((r.kids.take j).map Rf.t))), (39, (Pv q.rb))] 8 3 hS (.cons (hB1.cell 8 rfl) (.cons (ix_own (j := j) hrow (by kernel_rfl) (by kernel_rfl) rfl hj) (.cons (hcell) .nil))) fun a hS => ?_
   refine eff_call wide_wide (r := 2) (f := 65) (vs := [(Pv q.rb)]) (cap := #[]) (d := (some 40)) hS (by kernel_rfl) Try.call65 #[(Pv q.rb)] (by kernel_rfl) (ih q hqm (hF.mem hr hqm) w1 (hF.ext0 hEx)) ?_
   rintro _ w2 ⟨rfl, hE12⟩
   refine ⟨_, rfl, fun a hS => ?_⟩
   have hE18 := hEx.trans0 hE12
   refine sg wide_wide [.as (I6 ((sumW ((r.kids.take j).map Rf.t)) + q.t.wd)), .p] [Value.int .i64 (IntKind.i64.wrap ((sumW ((r.kids.take j).map Rf.t)) + q.t.wd)) = I6 ((sumW ((r.kids.take j).map Rf.t)) + q.t.wd)] [(0, (Pv r.rb)), (3, I6 ((sumW ((r.kids.take j).map Rf.t)) + q.t.wd)), (4, I6 ↑j)] 11 0 hS (.cons (as_i64 (by omega)) .nil) fun a hS => ?_
   refine seg_end ?_
   refine inBlock_normal ?_
   refine hK17 _ _ ?_
   refine rgn 3 ?_
   refine sg wide_wide [.p, .as (I6 (↑j + 1)), .p] [Value.int .i64 (IntKind.i64.wrap (↑j + 1)) = I6 (↑j + 1)] [(0, (Pv r.rb)), (3, I6 ((sumW ((r.kids.take j).map Rf.t)) + q.t.wd)), (4, I6 (↑j + 1))] 3 0 hS (.cons (as_i64 (by omega)) .nil) fun a hS => ?_
   refine seg_end ?_
   exact ⟨j + 1, ⟨by rw [hsn]; exact hS.keepTo [0, 3, 4] (by kernel_rfl), by omega, hE18⟩, by omega⟩
  ·
   replace hb16 := of_decide_eq_false hb16
   obtain rfl : j = r.kids.length := by omega
   rw [List.take_length] at hS
   refine wpIn_exit ?_
   refine then_exit ?_
   refine then_exit ?_
   refine inBlock_hit ?_
   refine hK12 _ _ ?_
   refine sq fun K20 hK20 => ?_
   refine rgn 2 ?_
   refine sg wide_wide [.p, .p] [] [(0, (Pv r.rb)), (3, I6 (sumW (r.kids.map Rf.t))), (2, I6 (sumW (r.kids.map Rf.t)))] 2 0 hS .nil fun a hS => ?_
   refine seg_end ?_
   refine hK20 _ _ ?_
   refine wpIn_ret ?_
   refine ret1 hS Try.results65 rfl ?_
   exact ⟨by rw [hsm.1], hEx⟩

end Go.Proofs.Ytpglmeeledmkoaa
